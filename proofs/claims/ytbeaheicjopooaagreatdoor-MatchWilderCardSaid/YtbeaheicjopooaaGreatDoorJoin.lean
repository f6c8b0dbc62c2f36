/- What package resolve's Join answers, for texts of at most 100000 bytes each. -/
import Derived.Test.YtbeaheicjopooaaGreatDoorProg
import Derived.Test.YtbeaheicjopooaaGreatDoorKind
import Derived.Test.YtbeaheicjopooaaGreatDoorEnv
namespace Go.Proofs.YtbeaheicjopooaaGreatDoor
open Go.RowKit Go.Sort
attribute [local go_sem] get_mk mk_append mk_extract0 mk_extract_end mk_extract_cons empty_mk cell_grow frozen_grow size_grow
/-- An address as a value. -/
def urlV (u : URL) : Value := .agg #[.bool u.opq, .string ⟨u.sch.toArray⟩, .string ⟨u.host.toArray⟩, .int .i64 u.port, .string ⟨u.path.toArray⟩, .string ⟨u.query.toArray⟩]
set_option maxRecDepth 100000 in
set_option maxHeartbeats 4000000 in
theorem rsjoin_calls (o : Bool) (a b : List UInt8) (n : Int) (c d : List UInt8) (ref : List UInt8) (w : World) (h1 : -9223372036854775808 ≤ n) (h2 : n ≤ 9223372036854775807)
    (ha : a.length ≤ 100000) (hb : b.length ≤ 100000) (hc : c.length ≤ 100000) (hd : d.length ≤ 100000) (hr : ref.length ≤ 100000) (hE : Env w) :
    Calls Tryz.prog 12 #[.agg #[.bool o, .string ⟨a.toArray⟩, .string ⟨b.toArray⟩, .int .i64 n, .string ⟨c.toArray⟩, .string ⟨d.toArray⟩], .string ⟨ref.toArray⟩] w fun e w' =>
      e = .returned (.tuple #[urlV (joinU ⟨o, a, b, n, c, d⟩ ref), .int .i64 (joinE ⟨o, a, b, n, c, d⟩ ref)]) ∧ Reach w w' := by
  have HE := Lib.hid hE
  clear hE
  have hk := fun W (hE : Env W) => kind_calls ref W (by omega) hE
  have hju : joinU ⟨o, a, b, n, c, d⟩ ref = if kindL ref = 1 then parseU ref else if baseOk ⟨o, a, b, n, c, d⟩ then parseU (joinT ⟨o, a, b, n, c, d⟩ (kindL ref) (frontL (trimL ref) [35])) else zeroU := rfl
  have hje : joinE ⟨o, a, b, n, c, d⟩ ref = if kindL ref = 1 then parseE ref else if baseOk ⟨o, a, b, n, c, d⟩ then parseE (joinT ⟨o, a, b, n, c, d⟩ (kindL ref) (frontL (trimL ref) [35])) else 51 := rfl
  have hkb := kindL_bounds ref
  generalize joinU ⟨o, a, b, n, c, d⟩ ref = ju at *
  generalize joinE ⟨o, a, b, n, c, d⟩ ref = je at *
  by_cases k1 : kindL ref = 1
  · rw [if_pos k1] at hju hje
    rw [k1] at hk
    have hp := fun W (hE : Env W) => parse_calls ref W (by omega) hE
    rw [← hju, ← hje] at hp
    have HK := Lib.hid hk
    have HP := Lib.hid hp
    clear hk hp hju hje k1 hkb
    obtain ⟨u0, u1, u2, u3, u4, u5⟩ := ju
    unfold urlV
    go_enter Tryz.func12, Tryz.ntmps12
    go_wp2_with fail
    have BA : Blk (w.alloc (.cells #[.bool o, .string ⟨a.toArray⟩, .string ⟨b.toArray⟩, .int .i64 n, .string ⟨c.toArray⟩, .string ⟨d.toArray⟩] 23)) (w.heap.size) #[.bool o, .string ⟨a.toArray⟩, .string ⟨b.toArray⟩, .int .i64 n, .string ⟨c.toArray⟩, .string ⟨d.toArray⟩] 23 := by have h := Blk.new w #[.bool o, .string ⟨a.toArray⟩, .string ⟨b.toArray⟩, .int .i64 n, .string ⟨c.toArray⟩, .string ⟨d.toArray⟩] 23; exact h
    have BR : Blk ((w.alloc (.cells #[.bool o, .string ⟨a.toArray⟩, .string ⟨b.toArray⟩, .int .i64 n, .string ⟨c.toArray⟩, .string ⟨d.toArray⟩] 23)).alloc (.cells #[.bool false, .string ⟨#[]⟩, .string ⟨#[]⟩, .int .i64 0, .string ⟨#[]⟩, .string ⟨#[]⟩] 23)) (w.heap.size + 1) #[.bool false, .string ⟨#[]⟩, .string ⟨#[]⟩, .int .i64 0, .string ⟨#[]⟩, .string ⟨#[]⟩] 23 := by have h := Blk.new (w.alloc (.cells #[.bool o, .string ⟨a.toArray⟩, .string ⟨b.toArray⟩, .int .i64 n, .string ⟨c.toArray⟩, .string ⟨d.toArray⟩] 23)) #[.bool false, .string ⟨#[]⟩, .string ⟨#[]⟩, .int .i64 0, .string ⟨#[]⟩, .string ⟨#[]⟩] 23; rw [World.size_alloc] at h; exact h
    replace BA := BA.reach (Reach.alloc (Reach.refl _) (.cells #[.bool false, .string ⟨#[]⟩, .string ⟨#[]⟩, .int .i64 0, .string ⟨#[]⟩, .string ⟨#[]⟩] 23))
    have Q : Reach w _ := Reach.alloc (Reach.alloc (Reach.refl w) (.cells #[.bool o, .string ⟨a.toArray⟩, .string ⟨b.toArray⟩, .int .i64 n, .string ⟨c.toArray⟩, .string ⟨d.toArray⟩] 23)) (.cells #[.bool false, .string ⟨#[]⟩, .string ⟨#[]⟩, .int .i64 0, .string ⟨#[]⟩, .string ⟨#[]⟩] 23)
    generalize (w.alloc (.cells #[.bool o, .string ⟨a.toArray⟩, .string ⟨b.toArray⟩, .int .i64 n, .string ⟨c.toArray⟩, .string ⟨d.toArray⟩] 23)).alloc (.cells #[.bool false, .string ⟨#[]⟩, .string ⟨#[]⟩, .int .i64 0, .string ⟨#[]⟩, .string ⟨#[]⟩] 23) = W0 at BA BR Q ⊢
    refine Calls.mono (HK.out _ (Env.reach HE.out Q)) ?_
    rintro e W1 ⟨rfl, hr⟩
    replace BA := BA.reach hr
    replace BR := BR.reach hr
    replace Q := Reach.trans Q hr
    clear hr
    obtain ⟨x0_0, x0_1, x0_2, x0_3, x0_4, x0_5⟩ := BA.six
    have xl0 := BA.lt
    obtain ⟨⟨x1_0, x1_1, x1_2, x1_3, x1_4, x1_5⟩, y1_0, y1_1, y1_2, y1_3, y1_4, y1_5⟩ := BR.sixf
    have xl1 := BR.lt
    go_wp2_with fail
    clear x0_0 x0_1 x0_2 x0_3 x0_4 x0_5 xl0 x1_0 x1_1 x1_2 x1_3 x1_4 x1_5 y1_0 y1_1 y1_2 y1_3 y1_4 y1_5 xl1
    refine Calls.mono (HP.out _ (Env.reach HE.out Q)) ?_
    rintro e W2 ⟨rfl, hr⟩
    replace BR := BR.reach hr
    replace Q := Reach.trans Q hr
    clear hr
    obtain ⟨⟨x0_0, x0_1, x0_2, x0_3, x0_4, x0_5⟩, y0_0, y0_1, y0_2, y0_3, y0_4, y0_5⟩ := BR.sixf
    have xl0 := BR.lt
    go_wp2_with fail
    clear x0_0 x0_1 x0_2 x0_3 x0_4 x0_5 y0_0 y0_1 y0_2 y0_3 y0_4 y0_5 xl0
    have BR1 := ((((((BR.put 0 (.bool u0)).put 1 (.string ⟨u1.toArray⟩)).put 2 (.string ⟨u2.toArray⟩)).put 3 (.int .i64 u3)).put 4 (.string ⟨u4.toArray⟩)).put 5 (.string ⟨u5.toArray⟩))
    obtain ⟨r0, r1, r2, r3, r4, r5⟩ := BR1.six
    refine bodyPost_ret (v := .tuple #[.agg #[.bool u0, .string ⟨u1.toArray⟩, .string ⟨u2.toArray⟩, .int .i64 u3, .string ⟨u4.toArray⟩, .string ⟨u5.toArray⟩], .int .i64 je]) (by simp [results, Tryz.results12, go_sem, r0, r1, r2, r3, r4, r5]) rfl ⟨rfl, ?_⟩
    exact Reach.setCell (Reach.setCell (Reach.setCell (Reach.setCell (Reach.setCell (Reach.setCell Q (by simp) _) (by simp) _) (by simp) _) (by simp) _) (by simp) _) (by simp) _
  rw [if_neg k1] at hju hje
  have hx := fun W (hE : Env W) => print_calls o a b n c d W h1 h2 (by omega) (by omega) (by omega) (by omega) hE
  cases hck : checkB ⟨o, a, b, n, c, d⟩
  · have hb0 : baseOk ⟨o, a, b, n, c, d⟩ = false := by unfold baseOk; rw [hck]; rfl
    rw [hb0] at hju hje
    simp only [Bool.false_eq_true, if_false] at hju hje
    simp only [printL, checkE, hck, Bool.false_eq_true, if_false] at hx
    clear hck hb0
    subst hju hje
    have HK := Lib.hid hk
    have HX := Lib.hid hx
    clear hk hx hkb
    unfold urlV zeroU
    have k1b : (kindL ref == 1) = false := by simpa using k1
    generalize kindL ref = k at *
    clear k1
    go_enter Tryz.func12, Tryz.ntmps12
    go_wp2_with fail
    have BA : Blk (w.alloc (.cells #[.bool o, .string ⟨a.toArray⟩, .string ⟨b.toArray⟩, .int .i64 n, .string ⟨c.toArray⟩, .string ⟨d.toArray⟩] 23)) (w.heap.size) #[.bool o, .string ⟨a.toArray⟩, .string ⟨b.toArray⟩, .int .i64 n, .string ⟨c.toArray⟩, .string ⟨d.toArray⟩] 23 := by have h := Blk.new w #[.bool o, .string ⟨a.toArray⟩, .string ⟨b.toArray⟩, .int .i64 n, .string ⟨c.toArray⟩, .string ⟨d.toArray⟩] 23; exact h
    have BR : Blk ((w.alloc (.cells #[.bool o, .string ⟨a.toArray⟩, .string ⟨b.toArray⟩, .int .i64 n, .string ⟨c.toArray⟩, .string ⟨d.toArray⟩] 23)).alloc (.cells #[.bool false, .string ⟨#[]⟩, .string ⟨#[]⟩, .int .i64 0, .string ⟨#[]⟩, .string ⟨#[]⟩] 23)) (w.heap.size + 1) #[.bool false, .string ⟨#[]⟩, .string ⟨#[]⟩, .int .i64 0, .string ⟨#[]⟩, .string ⟨#[]⟩] 23 := by have h := Blk.new (w.alloc (.cells #[.bool o, .string ⟨a.toArray⟩, .string ⟨b.toArray⟩, .int .i64 n, .string ⟨c.toArray⟩, .string ⟨d.toArray⟩] 23)) #[.bool false, .string ⟨#[]⟩, .string ⟨#[]⟩, .int .i64 0, .string ⟨#[]⟩, .string ⟨#[]⟩] 23; rw [World.size_alloc] at h; exact h
    replace BA := BA.reach (Reach.alloc (Reach.refl _) (.cells #[.bool false, .string ⟨#[]⟩, .string ⟨#[]⟩, .int .i64 0, .string ⟨#[]⟩, .string ⟨#[]⟩] 23))
    have Q : Reach w _ := Reach.alloc (Reach.alloc (Reach.refl w) (.cells #[.bool o, .string ⟨a.toArray⟩, .string ⟨b.toArray⟩, .int .i64 n, .string ⟨c.toArray⟩, .string ⟨d.toArray⟩] 23)) (.cells #[.bool false, .string ⟨#[]⟩, .string ⟨#[]⟩, .int .i64 0, .string ⟨#[]⟩, .string ⟨#[]⟩] 23)
    generalize (w.alloc (.cells #[.bool o, .string ⟨a.toArray⟩, .string ⟨b.toArray⟩, .int .i64 n, .string ⟨c.toArray⟩, .string ⟨d.toArray⟩] 23)).alloc (.cells #[.bool false, .string ⟨#[]⟩, .string ⟨#[]⟩, .int .i64 0, .string ⟨#[]⟩, .string ⟨#[]⟩] 23) = W0 at BA BR Q ⊢
    refine Calls.mono (HK.out _ (Env.reach HE.out Q)) ?_
    rintro e W1 ⟨rfl, hr⟩
    replace BA := BA.reach hr
    replace BR := BR.reach hr
    replace Q := Reach.trans Q hr
    clear hr
    obtain ⟨x0_0, x0_1, x0_2, x0_3, x0_4, x0_5⟩ := BA.six
    have xl0 := BA.lt
    obtain ⟨⟨x1_0, x1_1, x1_2, x1_3, x1_4, x1_5⟩, y1_0, y1_1, y1_2, y1_3, y1_4, y1_5⟩ := BR.sixf
    have xl1 := BR.lt
    go_wp2_with fail
    clear x0_0 x0_1 x0_2 x0_3 x0_4 x0_5 xl0 x1_0 x1_1 x1_2 x1_3 x1_4 x1_5 y1_0 y1_1 y1_2 y1_3 y1_4 y1_5 xl1
    refine Calls.mono (HX.out _ (Env.reach HE.out Q)) ?_
    rintro e W2 ⟨rfl, hr⟩
    replace BA := BA.reach hr
    replace BR := BR.reach hr
    replace Q := Reach.trans Q hr
    clear hr
    obtain ⟨x0_0, x0_1, x0_2, x0_3, x0_4, x0_5⟩ := BA.six
    have xl0 := BA.lt
    obtain ⟨⟨x1_0, x1_1, x1_2, x1_3, x1_4, x1_5⟩, y1_0, y1_1, y1_2, y1_3, y1_4, y1_5⟩ := BR.sixf
    have xl1 := BR.lt
    go_wp2_with fail
    clear x0_0 x0_1 x0_2 x0_3 x0_4 x0_5 xl0 x1_0 x1_1 x1_2 x1_3 x1_4 x1_5 y1_0 y1_1 y1_2 y1_3 y1_4 y1_5 xl1
    have BR1 := ((((((BR.put 0 (.bool false)).put 1 (.string ⟨#[]⟩)).put 2 (.string ⟨#[]⟩)).put 3 (.int .i64 0)).put 4 (.string ⟨#[]⟩)).put 5 (.string ⟨#[]⟩))
    obtain ⟨r0, r1, r2, r3, r4, r5⟩ := BR1.six
    refine bodyPost_ret (v := .tuple #[.agg #[.bool false, .string ⟨#[]⟩, .string ⟨#[]⟩, .int .i64 0, .string ⟨#[]⟩, .string ⟨#[]⟩], .int .i64 51]) (by simp [results, Tryz.results12, go_sem, r0, r1, r2, r3, r4, r5]) rfl ⟨rfl, ?_⟩
    exact Reach.setCell (Reach.setCell (Reach.setCell (Reach.setCell (Reach.setCell (Reach.setCell Q (by simp) _) (by simp) _) (by simp) _) (by simp) _) (by simp) _) (by simp) _
  simp only [printL, checkE, hck, if_true] at hx
  cases o
  rotate_left
  · have hb0 : baseOk ⟨true, a, b, n, c, d⟩ = false := by unfold baseOk; rw [hck]; rfl
    rw [hb0] at hju hje
    simp only [Bool.false_eq_true, if_false] at hju hje
    clear hck hb0
    generalize textL ⟨true, a, b, n, c, d⟩ = tx at *
    subst hju hje
    have HK := Lib.hid hk
    have HX := Lib.hid hx
    clear hk hx hkb
    unfold urlV zeroU
    have k1b : (kindL ref == 1) = false := by simpa using k1
    generalize kindL ref = k at *
    clear k1
    go_enter Tryz.func12, Tryz.ntmps12
    go_wp2_with fail
    have BA : Blk (w.alloc (.cells #[.bool true, .string ⟨a.toArray⟩, .string ⟨b.toArray⟩, .int .i64 n, .string ⟨c.toArray⟩, .string ⟨d.toArray⟩] 23)) (w.heap.size) #[.bool true, .string ⟨a.toArray⟩, .string ⟨b.toArray⟩, .int .i64 n, .string ⟨c.toArray⟩, .string ⟨d.toArray⟩] 23 := by have h := Blk.new w #[.bool true, .string ⟨a.toArray⟩, .string ⟨b.toArray⟩, .int .i64 n, .string ⟨c.toArray⟩, .string ⟨d.toArray⟩] 23; exact h
    have BR : Blk ((w.alloc (.cells #[.bool true, .string ⟨a.toArray⟩, .string ⟨b.toArray⟩, .int .i64 n, .string ⟨c.toArray⟩, .string ⟨d.toArray⟩] 23)).alloc (.cells #[.bool false, .string ⟨#[]⟩, .string ⟨#[]⟩, .int .i64 0, .string ⟨#[]⟩, .string ⟨#[]⟩] 23)) (w.heap.size + 1) #[.bool false, .string ⟨#[]⟩, .string ⟨#[]⟩, .int .i64 0, .string ⟨#[]⟩, .string ⟨#[]⟩] 23 := by have h := Blk.new (w.alloc (.cells #[.bool true, .string ⟨a.toArray⟩, .string ⟨b.toArray⟩, .int .i64 n, .string ⟨c.toArray⟩, .string ⟨d.toArray⟩] 23)) #[.bool false, .string ⟨#[]⟩, .string ⟨#[]⟩, .int .i64 0, .string ⟨#[]⟩, .string ⟨#[]⟩] 23; rw [World.size_alloc] at h; exact h
    replace BA := BA.reach (Reach.alloc (Reach.refl _) (.cells #[.bool false, .string ⟨#[]⟩, .string ⟨#[]⟩, .int .i64 0, .string ⟨#[]⟩, .string ⟨#[]⟩] 23))
    have Q : Reach w _ := Reach.alloc (Reach.alloc (Reach.refl w) (.cells #[.bool true, .string ⟨a.toArray⟩, .string ⟨b.toArray⟩, .int .i64 n, .string ⟨c.toArray⟩, .string ⟨d.toArray⟩] 23)) (.cells #[.bool false, .string ⟨#[]⟩, .string ⟨#[]⟩, .int .i64 0, .string ⟨#[]⟩, .string ⟨#[]⟩] 23)
    generalize (w.alloc (.cells #[.bool true, .string ⟨a.toArray⟩, .string ⟨b.toArray⟩, .int .i64 n, .string ⟨c.toArray⟩, .string ⟨d.toArray⟩] 23)).alloc (.cells #[.bool false, .string ⟨#[]⟩, .string ⟨#[]⟩, .int .i64 0, .string ⟨#[]⟩, .string ⟨#[]⟩] 23) = W0 at BA BR Q ⊢
    refine Calls.mono (HK.out _ (Env.reach HE.out Q)) ?_
    rintro e W1 ⟨rfl, hr⟩
    replace BA := BA.reach hr
    replace BR := BR.reach hr
    replace Q := Reach.trans Q hr
    clear hr
    obtain ⟨x0_0, x0_1, x0_2, x0_3, x0_4, x0_5⟩ := BA.six
    have xl0 := BA.lt
    obtain ⟨⟨x1_0, x1_1, x1_2, x1_3, x1_4, x1_5⟩, y1_0, y1_1, y1_2, y1_3, y1_4, y1_5⟩ := BR.sixf
    have xl1 := BR.lt
    go_wp2_with fail
    clear x0_0 x0_1 x0_2 x0_3 x0_4 x0_5 xl0 x1_0 x1_1 x1_2 x1_3 x1_4 x1_5 y1_0 y1_1 y1_2 y1_3 y1_4 y1_5 xl1
    refine Calls.mono (HX.out _ (Env.reach HE.out Q)) ?_
    rintro e W2 ⟨rfl, hr⟩
    replace BA := BA.reach hr
    replace BR := BR.reach hr
    replace Q := Reach.trans Q hr
    clear hr
    obtain ⟨x0_0, x0_1, x0_2, x0_3, x0_4, x0_5⟩ := BA.six
    have xl0 := BA.lt
    obtain ⟨⟨x1_0, x1_1, x1_2, x1_3, x1_4, x1_5⟩, y1_0, y1_1, y1_2, y1_3, y1_4, y1_5⟩ := BR.sixf
    have xl1 := BR.lt
    go_wp2_with fail
    clear x0_0 x0_1 x0_2 x0_3 x0_4 x0_5 xl0 x1_0 x1_1 x1_2 x1_3 x1_4 x1_5 y1_0 y1_1 y1_2 y1_3 y1_4 y1_5 xl1
    have BR1 := ((((((BR.put 0 (.bool false)).put 1 (.string ⟨#[]⟩)).put 2 (.string ⟨#[]⟩)).put 3 (.int .i64 0)).put 4 (.string ⟨#[]⟩)).put 5 (.string ⟨#[]⟩))
    obtain ⟨r0, r1, r2, r3, r4, r5⟩ := BR1.six
    refine bodyPost_ret (v := .tuple #[.agg #[.bool false, .string ⟨#[]⟩, .string ⟨#[]⟩, .int .i64 0, .string ⟨#[]⟩, .string ⟨#[]⟩], .int .i64 51]) (by simp [results, Tryz.results12, go_sem, r0, r1, r2, r3, r4, r5]) rfl ⟨rfl, ?_⟩
    exact Reach.setCell (Reach.setCell (Reach.setCell (Reach.setCell (Reach.setCell (Reach.setCell Q (by simp) _) (by simp) _) (by simp) _) (by simp) _) (by simp) _) (by simp) _
  have hb0 : baseOk ⟨false, a, b, n, c, d⟩ = true := by unfold baseOk; rw [hck]; rfl
  rw [hb0] at hju hje
  simp only [if_true] at hju hje
  obtain ⟨-, -, hlen, -, -⟩ := checkB_parts _ hck
  have htx := textL_front ⟨false, a, b, n, c, d⟩ rfl
  rw [htx] at hx hlen
  simp only [joinT, htx] at hju hje
  generalize frontT a b n = F at *
  clear hck hb0 htx
  simp only [List.length_append] at hlen
  have hT := fun W => trim_calls ref W (by omega)
  have hl1 := trimL_length ref
  have hl2 := frontL_length (trimL ref) [35]
  have hC := fun W (hE : Env W) => cut1_calls (trimL ref) 35 W (by omega) hE
  have hS := fun W => trimSuf_calls (F ++ (c ++ d)) (c ++ d) W (by simp; omega)
  simp only [trimSuffix_own] at hS
  have hLs := fun W => lastSl_calls c W (by omega)
  have hln := lastN_le c
  generalize trimL ref = ts at *
  generalize frontL ts [35] = r at *
  generalize (restL ts [35]).drop 1 = junk at *
  generalize (restL ts [35] != []) = jb at *
  unfold folderL at hju hje
  generalize lastN c = ln at *
  have HX := Lib.hid hx
  have HT := Lib.hid hT
  have HC := Lib.hid hC
  have HS := Lib.hid hS
  have HL := Lib.hid hLs
  clear hx hT hC hS hLs
  have hk6 : kindL ref = 2 ∨ kindL ref = 3 ∨ kindL ref = 4 ∨ kindL ref = 5 ∨ kindL ref = 6 := by omega
  clear k1 hkb
  rcases hk6 with k | k | k | k | k
  · rw [k] at hk hju hje
    simp at hju hje
    have hp := fun W (hE : Env W) => parse_calls (a ++ 58 :: r) W (by simp; omega) hE
    rw [← hju, ← hje] at hp
    have HK := Lib.hid hk
    have HP := Lib.hid hp
    clear hk hp hju hje k
    obtain ⟨u0, u1, u2, u3, u4, u5⟩ := ju
    unfold urlV
    go_enter Tryz.func12, Tryz.ntmps12
    go_wp2_with fail
    have BA : Blk (w.alloc (.cells #[.bool false, .string ⟨a.toArray⟩, .string ⟨b.toArray⟩, .int .i64 n, .string ⟨c.toArray⟩, .string ⟨d.toArray⟩] 23)) (w.heap.size) #[.bool false, .string ⟨a.toArray⟩, .string ⟨b.toArray⟩, .int .i64 n, .string ⟨c.toArray⟩, .string ⟨d.toArray⟩] 23 := by have h := Blk.new w #[.bool false, .string ⟨a.toArray⟩, .string ⟨b.toArray⟩, .int .i64 n, .string ⟨c.toArray⟩, .string ⟨d.toArray⟩] 23; exact h
    have BR : Blk ((w.alloc (.cells #[.bool false, .string ⟨a.toArray⟩, .string ⟨b.toArray⟩, .int .i64 n, .string ⟨c.toArray⟩, .string ⟨d.toArray⟩] 23)).alloc (.cells #[.bool false, .string ⟨#[]⟩, .string ⟨#[]⟩, .int .i64 0, .string ⟨#[]⟩, .string ⟨#[]⟩] 23)) (w.heap.size + 1) #[.bool false, .string ⟨#[]⟩, .string ⟨#[]⟩, .int .i64 0, .string ⟨#[]⟩, .string ⟨#[]⟩] 23 := by have h := Blk.new (w.alloc (.cells #[.bool false, .string ⟨a.toArray⟩, .string ⟨b.toArray⟩, .int .i64 n, .string ⟨c.toArray⟩, .string ⟨d.toArray⟩] 23)) #[.bool false, .string ⟨#[]⟩, .string ⟨#[]⟩, .int .i64 0, .string ⟨#[]⟩, .string ⟨#[]⟩] 23; rw [World.size_alloc] at h; exact h
    replace BA := BA.reach (Reach.alloc (Reach.refl _) (.cells #[.bool false, .string ⟨#[]⟩, .string ⟨#[]⟩, .int .i64 0, .string ⟨#[]⟩, .string ⟨#[]⟩] 23))
    have Q : Reach w _ := Reach.alloc (Reach.alloc (Reach.refl w) (.cells #[.bool false, .string ⟨a.toArray⟩, .string ⟨b.toArray⟩, .int .i64 n, .string ⟨c.toArray⟩, .string ⟨d.toArray⟩] 23)) (.cells #[.bool false, .string ⟨#[]⟩, .string ⟨#[]⟩, .int .i64 0, .string ⟨#[]⟩, .string ⟨#[]⟩] 23)
    generalize (w.alloc (.cells #[.bool false, .string ⟨a.toArray⟩, .string ⟨b.toArray⟩, .int .i64 n, .string ⟨c.toArray⟩, .string ⟨d.toArray⟩] 23)).alloc (.cells #[.bool false, .string ⟨#[]⟩, .string ⟨#[]⟩, .int .i64 0, .string ⟨#[]⟩, .string ⟨#[]⟩] 23) = W0 at BA BR Q ⊢
    refine Calls.mono (HK.out _ (Env.reach HE.out Q)) ?_
    rintro e W1 ⟨rfl, hr⟩
    replace BA := BA.reach hr
    replace BR := BR.reach hr
    replace Q := Reach.trans Q hr
    clear hr
    obtain ⟨x0_0, x0_1, x0_2, x0_3, x0_4, x0_5⟩ := BA.six
    have xl0 := BA.lt
    obtain ⟨⟨x1_0, x1_1, x1_2, x1_3, x1_4, x1_5⟩, y1_0, y1_1, y1_2, y1_3, y1_4, y1_5⟩ := BR.sixf
    have xl1 := BR.lt
    go_wp2_with fail
    clear x0_0 x0_1 x0_2 x0_3 x0_4 x0_5 xl0 x1_0 x1_1 x1_2 x1_3 x1_4 x1_5 y1_0 y1_1 y1_2 y1_3 y1_4 y1_5 xl1
    refine Calls.mono (HX.out _ (Env.reach HE.out Q)) ?_
    rintro e W2 ⟨rfl, hr⟩
    replace BA := BA.reach hr
    replace BR := BR.reach hr
    replace Q := Reach.trans Q hr
    clear hr
    obtain ⟨x0_0, x0_1, x0_2, x0_3, x0_4, x0_5⟩ := BA.six
    have xl0 := BA.lt
    obtain ⟨⟨x1_0, x1_1, x1_2, x1_3, x1_4, x1_5⟩, y1_0, y1_1, y1_2, y1_3, y1_4, y1_5⟩ := BR.sixf
    have xl1 := BR.lt
    go_wp2_with fail
    clear x0_0 x0_1 x0_2 x0_3 x0_4 x0_5 xl0 x1_0 x1_1 x1_2 x1_3 x1_4 x1_5 y1_0 y1_1 y1_2 y1_3 y1_4 y1_5 xl1
    refine Calls.mono (HT.out _) ?_
    rintro e W3 ⟨rfl, hr⟩
    replace BA := BA.reach hr
    replace BR := BR.reach hr
    replace Q := Reach.trans Q hr
    clear hr
    obtain ⟨x0_0, x0_1, x0_2, x0_3, x0_4, x0_5⟩ := BA.six
    have xl0 := BA.lt
    obtain ⟨⟨x1_0, x1_1, x1_2, x1_3, x1_4, x1_5⟩, y1_0, y1_1, y1_2, y1_3, y1_4, y1_5⟩ := BR.sixf
    have xl1 := BR.lt
    go_wp2_with fail
    clear x0_0 x0_1 x0_2 x0_3 x0_4 x0_5 xl0 x1_0 x1_1 x1_2 x1_3 x1_4 x1_5 y1_0 y1_1 y1_2 y1_3 y1_4 y1_5 xl1
    refine Calls.mono (HC.out _ (Env.reach HE.out Q)) ?_
    rintro e W4 ⟨rfl, hr⟩
    replace BA := BA.reach hr
    replace BR := BR.reach hr
    replace Q := Reach.trans Q hr
    clear hr
    obtain ⟨x0_0, x0_1, x0_2, x0_3, x0_4, x0_5⟩ := BA.six
    have xl0 := BA.lt
    obtain ⟨⟨x1_0, x1_1, x1_2, x1_3, x1_4, x1_5⟩, y1_0, y1_1, y1_2, y1_3, y1_4, y1_5⟩ := BR.sixf
    have xl1 := BR.lt
    go_wp2_with (first | (go_at_call 36; (with_reducible refine Calls.mono (HS.out _) ?_); rintro e w' ⟨rfl, rfl⟩))
    clear x0_0 x0_1 x0_2 x0_3 x0_4 x0_5 xl0 x1_0 x1_1 x1_2 x1_3 x1_4 x1_5 y1_0 y1_1 y1_2 y1_3 y1_4 y1_5 xl1
    refine Calls.mono (HP.out _ (Env.reach HE.out Q)) ?_
    rintro e W5 ⟨rfl, hr⟩
    replace BR := BR.reach hr
    replace Q := Reach.trans Q hr
    clear hr
    obtain ⟨⟨x0_0, x0_1, x0_2, x0_3, x0_4, x0_5⟩, y0_0, y0_1, y0_2, y0_3, y0_4, y0_5⟩ := BR.sixf
    have xl0 := BR.lt
    go_wp2_with fail
    clear x0_0 x0_1 x0_2 x0_3 x0_4 x0_5 y0_0 y0_1 y0_2 y0_3 y0_4 y0_5 xl0
    have BR1 := ((((((BR.put 0 (.bool u0)).put 1 (.string ⟨u1.toArray⟩)).put 2 (.string ⟨u2.toArray⟩)).put 3 (.int .i64 u3)).put 4 (.string ⟨u4.toArray⟩)).put 5 (.string ⟨u5.toArray⟩))
    obtain ⟨r0, r1, r2, r3, r4, r5⟩ := BR1.six
    refine bodyPost_ret (v := .tuple #[.agg #[.bool u0, .string ⟨u1.toArray⟩, .string ⟨u2.toArray⟩, .int .i64 u3, .string ⟨u4.toArray⟩, .string ⟨u5.toArray⟩], .int .i64 je]) (by simp [results, Tryz.results12, go_sem, r0, r1, r2, r3, r4, r5]) rfl ⟨rfl, ?_⟩
    exact Reach.setCell (Reach.setCell (Reach.setCell (Reach.setCell (Reach.setCell (Reach.setCell Q (by simp) _) (by simp) _) (by simp) _) (by simp) _) (by simp) _) (by simp) _
  · rw [k] at hk hju hje
    simp at hju hje
    have hp := fun W (hE : Env W) => parse_calls (F ++ r) W (by simp; omega) hE
    rw [← hju, ← hje] at hp
    have HK := Lib.hid hk
    have HP := Lib.hid hp
    clear hk hp hju hje k
    obtain ⟨u0, u1, u2, u3, u4, u5⟩ := ju
    unfold urlV
    go_enter Tryz.func12, Tryz.ntmps12
    go_wp2_with fail
    have BA : Blk (w.alloc (.cells #[.bool false, .string ⟨a.toArray⟩, .string ⟨b.toArray⟩, .int .i64 n, .string ⟨c.toArray⟩, .string ⟨d.toArray⟩] 23)) (w.heap.size) #[.bool false, .string ⟨a.toArray⟩, .string ⟨b.toArray⟩, .int .i64 n, .string ⟨c.toArray⟩, .string ⟨d.toArray⟩] 23 := by have h := Blk.new w #[.bool false, .string ⟨a.toArray⟩, .string ⟨b.toArray⟩, .int .i64 n, .string ⟨c.toArray⟩, .string ⟨d.toArray⟩] 23; exact h
    have BR : Blk ((w.alloc (.cells #[.bool false, .string ⟨a.toArray⟩, .string ⟨b.toArray⟩, .int .i64 n, .string ⟨c.toArray⟩, .string ⟨d.toArray⟩] 23)).alloc (.cells #[.bool false, .string ⟨#[]⟩, .string ⟨#[]⟩, .int .i64 0, .string ⟨#[]⟩, .string ⟨#[]⟩] 23)) (w.heap.size + 1) #[.bool false, .string ⟨#[]⟩, .string ⟨#[]⟩, .int .i64 0, .string ⟨#[]⟩, .string ⟨#[]⟩] 23 := by have h := Blk.new (w.alloc (.cells #[.bool false, .string ⟨a.toArray⟩, .string ⟨b.toArray⟩, .int .i64 n, .string ⟨c.toArray⟩, .string ⟨d.toArray⟩] 23)) #[.bool false, .string ⟨#[]⟩, .string ⟨#[]⟩, .int .i64 0, .string ⟨#[]⟩, .string ⟨#[]⟩] 23; rw [World.size_alloc] at h; exact h
    replace BA := BA.reach (Reach.alloc (Reach.refl _) (.cells #[.bool false, .string ⟨#[]⟩, .string ⟨#[]⟩, .int .i64 0, .string ⟨#[]⟩, .string ⟨#[]⟩] 23))
    have Q : Reach w _ := Reach.alloc (Reach.alloc (Reach.refl w) (.cells #[.bool false, .string ⟨a.toArray⟩, .string ⟨b.toArray⟩, .int .i64 n, .string ⟨c.toArray⟩, .string ⟨d.toArray⟩] 23)) (.cells #[.bool false, .string ⟨#[]⟩, .string ⟨#[]⟩, .int .i64 0, .string ⟨#[]⟩, .string ⟨#[]⟩] 23)
    generalize (w.alloc (.cells #[.bool false, .string ⟨a.toArray⟩, .string ⟨b.toArray⟩, .int .i64 n, .string ⟨c.toArray⟩, .string ⟨d.toArray⟩] 23)).alloc (.cells #[.bool false, .string ⟨#[]⟩, .string ⟨#[]⟩, .int .i64 0, .string ⟨#[]⟩, .string ⟨#[]⟩] 23) = W0 at BA BR Q ⊢
    refine Calls.mono (HK.out _ (Env.reach HE.out Q)) ?_
    rintro e W1 ⟨rfl, hr⟩
    replace BA := BA.reach hr
    replace BR := BR.reach hr
    replace Q := Reach.trans Q hr
    clear hr
    obtain ⟨x0_0, x0_1, x0_2, x0_3, x0_4, x0_5⟩ := BA.six
    have xl0 := BA.lt
    obtain ⟨⟨x1_0, x1_1, x1_2, x1_3, x1_4, x1_5⟩, y1_0, y1_1, y1_2, y1_3, y1_4, y1_5⟩ := BR.sixf
    have xl1 := BR.lt
    go_wp2_with fail
    clear x0_0 x0_1 x0_2 x0_3 x0_4 x0_5 xl0 x1_0 x1_1 x1_2 x1_3 x1_4 x1_5 y1_0 y1_1 y1_2 y1_3 y1_4 y1_5 xl1
    refine Calls.mono (HX.out _ (Env.reach HE.out Q)) ?_
    rintro e W2 ⟨rfl, hr⟩
    replace BA := BA.reach hr
    replace BR := BR.reach hr
    replace Q := Reach.trans Q hr
    clear hr
    obtain ⟨x0_0, x0_1, x0_2, x0_3, x0_4, x0_5⟩ := BA.six
    have xl0 := BA.lt
    obtain ⟨⟨x1_0, x1_1, x1_2, x1_3, x1_4, x1_5⟩, y1_0, y1_1, y1_2, y1_3, y1_4, y1_5⟩ := BR.sixf
    have xl1 := BR.lt
    go_wp2_with fail
    clear x0_0 x0_1 x0_2 x0_3 x0_4 x0_5 xl0 x1_0 x1_1 x1_2 x1_3 x1_4 x1_5 y1_0 y1_1 y1_2 y1_3 y1_4 y1_5 xl1
    refine Calls.mono (HT.out _) ?_
    rintro e W3 ⟨rfl, hr⟩
    replace BA := BA.reach hr
    replace BR := BR.reach hr
    replace Q := Reach.trans Q hr
    clear hr
    obtain ⟨x0_0, x0_1, x0_2, x0_3, x0_4, x0_5⟩ := BA.six
    have xl0 := BA.lt
    obtain ⟨⟨x1_0, x1_1, x1_2, x1_3, x1_4, x1_5⟩, y1_0, y1_1, y1_2, y1_3, y1_4, y1_5⟩ := BR.sixf
    have xl1 := BR.lt
    go_wp2_with fail
    clear x0_0 x0_1 x0_2 x0_3 x0_4 x0_5 xl0 x1_0 x1_1 x1_2 x1_3 x1_4 x1_5 y1_0 y1_1 y1_2 y1_3 y1_4 y1_5 xl1
    refine Calls.mono (HC.out _ (Env.reach HE.out Q)) ?_
    rintro e W4 ⟨rfl, hr⟩
    replace BA := BA.reach hr
    replace BR := BR.reach hr
    replace Q := Reach.trans Q hr
    clear hr
    obtain ⟨x0_0, x0_1, x0_2, x0_3, x0_4, x0_5⟩ := BA.six
    have xl0 := BA.lt
    obtain ⟨⟨x1_0, x1_1, x1_2, x1_3, x1_4, x1_5⟩, y1_0, y1_1, y1_2, y1_3, y1_4, y1_5⟩ := BR.sixf
    have xl1 := BR.lt
    go_wp2_with (first | (go_at_call 36; (with_reducible refine Calls.mono (HS.out _) ?_); rintro e w' ⟨rfl, rfl⟩))
    clear x0_0 x0_1 x0_2 x0_3 x0_4 x0_5 xl0 x1_0 x1_1 x1_2 x1_3 x1_4 x1_5 y1_0 y1_1 y1_2 y1_3 y1_4 y1_5 xl1
    refine Calls.mono (HP.out _ (Env.reach HE.out Q)) ?_
    rintro e W5 ⟨rfl, hr⟩
    replace BR := BR.reach hr
    replace Q := Reach.trans Q hr
    clear hr
    obtain ⟨⟨x0_0, x0_1, x0_2, x0_3, x0_4, x0_5⟩, y0_0, y0_1, y0_2, y0_3, y0_4, y0_5⟩ := BR.sixf
    have xl0 := BR.lt
    go_wp2_with fail
    clear x0_0 x0_1 x0_2 x0_3 x0_4 x0_5 y0_0 y0_1 y0_2 y0_3 y0_4 y0_5 xl0
    have BR1 := ((((((BR.put 0 (.bool u0)).put 1 (.string ⟨u1.toArray⟩)).put 2 (.string ⟨u2.toArray⟩)).put 3 (.int .i64 u3)).put 4 (.string ⟨u4.toArray⟩)).put 5 (.string ⟨u5.toArray⟩))
    obtain ⟨r0, r1, r2, r3, r4, r5⟩ := BR1.six
    refine bodyPost_ret (v := .tuple #[.agg #[.bool u0, .string ⟨u1.toArray⟩, .string ⟨u2.toArray⟩, .int .i64 u3, .string ⟨u4.toArray⟩, .string ⟨u5.toArray⟩], .int .i64 je]) (by simp [results, Tryz.results12, go_sem, r0, r1, r2, r3, r4, r5]) rfl ⟨rfl, ?_⟩
    exact Reach.setCell (Reach.setCell (Reach.setCell (Reach.setCell (Reach.setCell (Reach.setCell Q (by simp) _) (by simp) _) (by simp) _) (by simp) _) (by simp) _) (by simp) _
  · rw [k] at hk hju hje
    simp at hju hje
    have hp := fun W (hE : Env W) => parse_calls (F ++ (c ++ d)) W (by simp; omega) hE
    rw [← hju, ← hje] at hp
    have HK := Lib.hid hk
    have HP := Lib.hid hp
    clear hk hp hju hje k
    obtain ⟨u0, u1, u2, u3, u4, u5⟩ := ju
    unfold urlV
    go_enter Tryz.func12, Tryz.ntmps12
    go_wp2_with fail
    have BA : Blk (w.alloc (.cells #[.bool false, .string ⟨a.toArray⟩, .string ⟨b.toArray⟩, .int .i64 n, .string ⟨c.toArray⟩, .string ⟨d.toArray⟩] 23)) (w.heap.size) #[.bool false, .string ⟨a.toArray⟩, .string ⟨b.toArray⟩, .int .i64 n, .string ⟨c.toArray⟩, .string ⟨d.toArray⟩] 23 := by have h := Blk.new w #[.bool false, .string ⟨a.toArray⟩, .string ⟨b.toArray⟩, .int .i64 n, .string ⟨c.toArray⟩, .string ⟨d.toArray⟩] 23; exact h
    have BR : Blk ((w.alloc (.cells #[.bool false, .string ⟨a.toArray⟩, .string ⟨b.toArray⟩, .int .i64 n, .string ⟨c.toArray⟩, .string ⟨d.toArray⟩] 23)).alloc (.cells #[.bool false, .string ⟨#[]⟩, .string ⟨#[]⟩, .int .i64 0, .string ⟨#[]⟩, .string ⟨#[]⟩] 23)) (w.heap.size + 1) #[.bool false, .string ⟨#[]⟩, .string ⟨#[]⟩, .int .i64 0, .string ⟨#[]⟩, .string ⟨#[]⟩] 23 := by have h := Blk.new (w.alloc (.cells #[.bool false, .string ⟨a.toArray⟩, .string ⟨b.toArray⟩, .int .i64 n, .string ⟨c.toArray⟩, .string ⟨d.toArray⟩] 23)) #[.bool false, .string ⟨#[]⟩, .string ⟨#[]⟩, .int .i64 0, .string ⟨#[]⟩, .string ⟨#[]⟩] 23; rw [World.size_alloc] at h; exact h
    replace BA := BA.reach (Reach.alloc (Reach.refl _) (.cells #[.bool false, .string ⟨#[]⟩, .string ⟨#[]⟩, .int .i64 0, .string ⟨#[]⟩, .string ⟨#[]⟩] 23))
    have Q : Reach w _ := Reach.alloc (Reach.alloc (Reach.refl w) (.cells #[.bool false, .string ⟨a.toArray⟩, .string ⟨b.toArray⟩, .int .i64 n, .string ⟨c.toArray⟩, .string ⟨d.toArray⟩] 23)) (.cells #[.bool false, .string ⟨#[]⟩, .string ⟨#[]⟩, .int .i64 0, .string ⟨#[]⟩, .string ⟨#[]⟩] 23)
    generalize (w.alloc (.cells #[.bool false, .string ⟨a.toArray⟩, .string ⟨b.toArray⟩, .int .i64 n, .string ⟨c.toArray⟩, .string ⟨d.toArray⟩] 23)).alloc (.cells #[.bool false, .string ⟨#[]⟩, .string ⟨#[]⟩, .int .i64 0, .string ⟨#[]⟩, .string ⟨#[]⟩] 23) = W0 at BA BR Q ⊢
    refine Calls.mono (HK.out _ (Env.reach HE.out Q)) ?_
    rintro e W1 ⟨rfl, hr⟩
    replace BA := BA.reach hr
    replace BR := BR.reach hr
    replace Q := Reach.trans Q hr
    clear hr
    obtain ⟨x0_0, x0_1, x0_2, x0_3, x0_4, x0_5⟩ := BA.six
    have xl0 := BA.lt
    obtain ⟨⟨x1_0, x1_1, x1_2, x1_3, x1_4, x1_5⟩, y1_0, y1_1, y1_2, y1_3, y1_4, y1_5⟩ := BR.sixf
    have xl1 := BR.lt
    go_wp2_with fail
    clear x0_0 x0_1 x0_2 x0_3 x0_4 x0_5 xl0 x1_0 x1_1 x1_2 x1_3 x1_4 x1_5 y1_0 y1_1 y1_2 y1_3 y1_4 y1_5 xl1
    refine Calls.mono (HX.out _ (Env.reach HE.out Q)) ?_
    rintro e W2 ⟨rfl, hr⟩
    replace BA := BA.reach hr
    replace BR := BR.reach hr
    replace Q := Reach.trans Q hr
    clear hr
    obtain ⟨x0_0, x0_1, x0_2, x0_3, x0_4, x0_5⟩ := BA.six
    have xl0 := BA.lt
    obtain ⟨⟨x1_0, x1_1, x1_2, x1_3, x1_4, x1_5⟩, y1_0, y1_1, y1_2, y1_3, y1_4, y1_5⟩ := BR.sixf
    have xl1 := BR.lt
    go_wp2_with fail
    clear x0_0 x0_1 x0_2 x0_3 x0_4 x0_5 xl0 x1_0 x1_1 x1_2 x1_3 x1_4 x1_5 y1_0 y1_1 y1_2 y1_3 y1_4 y1_5 xl1
    refine Calls.mono (HT.out _) ?_
    rintro e W3 ⟨rfl, hr⟩
    replace BA := BA.reach hr
    replace BR := BR.reach hr
    replace Q := Reach.trans Q hr
    clear hr
    obtain ⟨x0_0, x0_1, x0_2, x0_3, x0_4, x0_5⟩ := BA.six
    have xl0 := BA.lt
    obtain ⟨⟨x1_0, x1_1, x1_2, x1_3, x1_4, x1_5⟩, y1_0, y1_1, y1_2, y1_3, y1_4, y1_5⟩ := BR.sixf
    have xl1 := BR.lt
    go_wp2_with fail
    clear x0_0 x0_1 x0_2 x0_3 x0_4 x0_5 xl0 x1_0 x1_1 x1_2 x1_3 x1_4 x1_5 y1_0 y1_1 y1_2 y1_3 y1_4 y1_5 xl1
    refine Calls.mono (HC.out _ (Env.reach HE.out Q)) ?_
    rintro e W4 ⟨rfl, hr⟩
    replace BA := BA.reach hr
    replace BR := BR.reach hr
    replace Q := Reach.trans Q hr
    clear hr
    obtain ⟨x0_0, x0_1, x0_2, x0_3, x0_4, x0_5⟩ := BA.six
    have xl0 := BA.lt
    obtain ⟨⟨x1_0, x1_1, x1_2, x1_3, x1_4, x1_5⟩, y1_0, y1_1, y1_2, y1_3, y1_4, y1_5⟩ := BR.sixf
    have xl1 := BR.lt
    go_wp2_with (first | (go_at_call 36; (with_reducible refine Calls.mono (HS.out _) ?_); rintro e w' ⟨rfl, rfl⟩))
    clear x0_0 x0_1 x0_2 x0_3 x0_4 x0_5 xl0 x1_0 x1_1 x1_2 x1_3 x1_4 x1_5 y1_0 y1_1 y1_2 y1_3 y1_4 y1_5 xl1
    refine Calls.mono (HP.out _ (Env.reach HE.out Q)) ?_
    rintro e W5 ⟨rfl, hr⟩
    replace BR := BR.reach hr
    replace Q := Reach.trans Q hr
    clear hr
    obtain ⟨⟨x0_0, x0_1, x0_2, x0_3, x0_4, x0_5⟩, y0_0, y0_1, y0_2, y0_3, y0_4, y0_5⟩ := BR.sixf
    have xl0 := BR.lt
    go_wp2_with fail
    clear x0_0 x0_1 x0_2 x0_3 x0_4 x0_5 y0_0 y0_1 y0_2 y0_3 y0_4 y0_5 xl0
    have BR1 := ((((((BR.put 0 (.bool u0)).put 1 (.string ⟨u1.toArray⟩)).put 2 (.string ⟨u2.toArray⟩)).put 3 (.int .i64 u3)).put 4 (.string ⟨u4.toArray⟩)).put 5 (.string ⟨u5.toArray⟩))
    obtain ⟨r0, r1, r2, r3, r4, r5⟩ := BR1.six
    refine bodyPost_ret (v := .tuple #[.agg #[.bool u0, .string ⟨u1.toArray⟩, .string ⟨u2.toArray⟩, .int .i64 u3, .string ⟨u4.toArray⟩, .string ⟨u5.toArray⟩], .int .i64 je]) (by simp [results, Tryz.results12, go_sem, r0, r1, r2, r3, r4, r5]) rfl ⟨rfl, ?_⟩
    exact Reach.setCell (Reach.setCell (Reach.setCell (Reach.setCell (Reach.setCell (Reach.setCell Q (by simp) _) (by simp) _) (by simp) _) (by simp) _) (by simp) _) (by simp) _
  · rw [k] at hk hju hje
    simp at hju hje
    have hp := fun W (hE : Env W) => parse_calls (F ++ (c ++ r)) W (by simp; omega) hE
    rw [← hju, ← hje] at hp
    have HK := Lib.hid hk
    have HP := Lib.hid hp
    clear hk hp hju hje k
    obtain ⟨u0, u1, u2, u3, u4, u5⟩ := ju
    unfold urlV
    go_enter Tryz.func12, Tryz.ntmps12
    go_wp2_with fail
    have BA : Blk (w.alloc (.cells #[.bool false, .string ⟨a.toArray⟩, .string ⟨b.toArray⟩, .int .i64 n, .string ⟨c.toArray⟩, .string ⟨d.toArray⟩] 23)) (w.heap.size) #[.bool false, .string ⟨a.toArray⟩, .string ⟨b.toArray⟩, .int .i64 n, .string ⟨c.toArray⟩, .string ⟨d.toArray⟩] 23 := by have h := Blk.new w #[.bool false, .string ⟨a.toArray⟩, .string ⟨b.toArray⟩, .int .i64 n, .string ⟨c.toArray⟩, .string ⟨d.toArray⟩] 23; exact h
    have BR : Blk ((w.alloc (.cells #[.bool false, .string ⟨a.toArray⟩, .string ⟨b.toArray⟩, .int .i64 n, .string ⟨c.toArray⟩, .string ⟨d.toArray⟩] 23)).alloc (.cells #[.bool false, .string ⟨#[]⟩, .string ⟨#[]⟩, .int .i64 0, .string ⟨#[]⟩, .string ⟨#[]⟩] 23)) (w.heap.size + 1) #[.bool false, .string ⟨#[]⟩, .string ⟨#[]⟩, .int .i64 0, .string ⟨#[]⟩, .string ⟨#[]⟩] 23 := by have h := Blk.new (w.alloc (.cells #[.bool false, .string ⟨a.toArray⟩, .string ⟨b.toArray⟩, .int .i64 n, .string ⟨c.toArray⟩, .string ⟨d.toArray⟩] 23)) #[.bool false, .string ⟨#[]⟩, .string ⟨#[]⟩, .int .i64 0, .string ⟨#[]⟩, .string ⟨#[]⟩] 23; rw [World.size_alloc] at h; exact h
    replace BA := BA.reach (Reach.alloc (Reach.refl _) (.cells #[.bool false, .string ⟨#[]⟩, .string ⟨#[]⟩, .int .i64 0, .string ⟨#[]⟩, .string ⟨#[]⟩] 23))
    have Q : Reach w _ := Reach.alloc (Reach.alloc (Reach.refl w) (.cells #[.bool false, .string ⟨a.toArray⟩, .string ⟨b.toArray⟩, .int .i64 n, .string ⟨c.toArray⟩, .string ⟨d.toArray⟩] 23)) (.cells #[.bool false, .string ⟨#[]⟩, .string ⟨#[]⟩, .int .i64 0, .string ⟨#[]⟩, .string ⟨#[]⟩] 23)
    generalize (w.alloc (.cells #[.bool false, .string ⟨a.toArray⟩, .string ⟨b.toArray⟩, .int .i64 n, .string ⟨c.toArray⟩, .string ⟨d.toArray⟩] 23)).alloc (.cells #[.bool false, .string ⟨#[]⟩, .string ⟨#[]⟩, .int .i64 0, .string ⟨#[]⟩, .string ⟨#[]⟩] 23) = W0 at BA BR Q ⊢
    refine Calls.mono (HK.out _ (Env.reach HE.out Q)) ?_
    rintro e W1 ⟨rfl, hr⟩
    replace BA := BA.reach hr
    replace BR := BR.reach hr
    replace Q := Reach.trans Q hr
    clear hr
    obtain ⟨x0_0, x0_1, x0_2, x0_3, x0_4, x0_5⟩ := BA.six
    have xl0 := BA.lt
    obtain ⟨⟨x1_0, x1_1, x1_2, x1_3, x1_4, x1_5⟩, y1_0, y1_1, y1_2, y1_3, y1_4, y1_5⟩ := BR.sixf
    have xl1 := BR.lt
    go_wp2_with fail
    clear x0_0 x0_1 x0_2 x0_3 x0_4 x0_5 xl0 x1_0 x1_1 x1_2 x1_3 x1_4 x1_5 y1_0 y1_1 y1_2 y1_3 y1_4 y1_5 xl1
    refine Calls.mono (HX.out _ (Env.reach HE.out Q)) ?_
    rintro e W2 ⟨rfl, hr⟩
    replace BA := BA.reach hr
    replace BR := BR.reach hr
    replace Q := Reach.trans Q hr
    clear hr
    obtain ⟨x0_0, x0_1, x0_2, x0_3, x0_4, x0_5⟩ := BA.six
    have xl0 := BA.lt
    obtain ⟨⟨x1_0, x1_1, x1_2, x1_3, x1_4, x1_5⟩, y1_0, y1_1, y1_2, y1_3, y1_4, y1_5⟩ := BR.sixf
    have xl1 := BR.lt
    go_wp2_with fail
    clear x0_0 x0_1 x0_2 x0_3 x0_4 x0_5 xl0 x1_0 x1_1 x1_2 x1_3 x1_4 x1_5 y1_0 y1_1 y1_2 y1_3 y1_4 y1_5 xl1
    refine Calls.mono (HT.out _) ?_
    rintro e W3 ⟨rfl, hr⟩
    replace BA := BA.reach hr
    replace BR := BR.reach hr
    replace Q := Reach.trans Q hr
    clear hr
    obtain ⟨x0_0, x0_1, x0_2, x0_3, x0_4, x0_5⟩ := BA.six
    have xl0 := BA.lt
    obtain ⟨⟨x1_0, x1_1, x1_2, x1_3, x1_4, x1_5⟩, y1_0, y1_1, y1_2, y1_3, y1_4, y1_5⟩ := BR.sixf
    have xl1 := BR.lt
    go_wp2_with fail
    clear x0_0 x0_1 x0_2 x0_3 x0_4 x0_5 xl0 x1_0 x1_1 x1_2 x1_3 x1_4 x1_5 y1_0 y1_1 y1_2 y1_3 y1_4 y1_5 xl1
    refine Calls.mono (HC.out _ (Env.reach HE.out Q)) ?_
    rintro e W4 ⟨rfl, hr⟩
    replace BA := BA.reach hr
    replace BR := BR.reach hr
    replace Q := Reach.trans Q hr
    clear hr
    obtain ⟨x0_0, x0_1, x0_2, x0_3, x0_4, x0_5⟩ := BA.six
    have xl0 := BA.lt
    obtain ⟨⟨x1_0, x1_1, x1_2, x1_3, x1_4, x1_5⟩, y1_0, y1_1, y1_2, y1_3, y1_4, y1_5⟩ := BR.sixf
    have xl1 := BR.lt
    go_wp2_with (first | (go_at_call 36; (with_reducible refine Calls.mono (HS.out _) ?_); rintro e w' ⟨rfl, rfl⟩))
    clear x0_0 x0_1 x0_2 x0_3 x0_4 x0_5 xl0 x1_0 x1_1 x1_2 x1_3 x1_4 x1_5 y1_0 y1_1 y1_2 y1_3 y1_4 y1_5 xl1
    refine Calls.mono (HP.out _ (Env.reach HE.out Q)) ?_
    rintro e W5 ⟨rfl, hr⟩
    replace BR := BR.reach hr
    replace Q := Reach.trans Q hr
    clear hr
    obtain ⟨⟨x0_0, x0_1, x0_2, x0_3, x0_4, x0_5⟩, y0_0, y0_1, y0_2, y0_3, y0_4, y0_5⟩ := BR.sixf
    have xl0 := BR.lt
    go_wp2_with fail
    clear x0_0 x0_1 x0_2 x0_3 x0_4 x0_5 y0_0 y0_1 y0_2 y0_3 y0_4 y0_5 xl0
    have BR1 := ((((((BR.put 0 (.bool u0)).put 1 (.string ⟨u1.toArray⟩)).put 2 (.string ⟨u2.toArray⟩)).put 3 (.int .i64 u3)).put 4 (.string ⟨u4.toArray⟩)).put 5 (.string ⟨u5.toArray⟩))
    obtain ⟨r0, r1, r2, r3, r4, r5⟩ := BR1.six
    refine bodyPost_ret (v := .tuple #[.agg #[.bool u0, .string ⟨u1.toArray⟩, .string ⟨u2.toArray⟩, .int .i64 u3, .string ⟨u4.toArray⟩, .string ⟨u5.toArray⟩], .int .i64 je]) (by simp [results, Tryz.results12, go_sem, r0, r1, r2, r3, r4, r5]) rfl ⟨rfl, ?_⟩
    exact Reach.setCell (Reach.setCell (Reach.setCell (Reach.setCell (Reach.setCell (Reach.setCell Q (by simp) _) (by simp) _) (by simp) _) (by simp) _) (by simp) _) (by simp) _
  · rw [k] at hk hju hje
    simp at hju hje
    have hp := fun W (hE : Env W) => parse_calls (F ++ (c.take ln ++ r)) W (by simp; omega) hE
    rw [← hju, ← hje] at hp
    have HK := Lib.hid hk
    have HP := Lib.hid hp
    clear hk hp hju hje k
    obtain ⟨u0, u1, u2, u3, u4, u5⟩ := ju
    unfold urlV
    go_enter Tryz.func12, Tryz.ntmps12
    go_wp2_with fail
    have BA : Blk (w.alloc (.cells #[.bool false, .string ⟨a.toArray⟩, .string ⟨b.toArray⟩, .int .i64 n, .string ⟨c.toArray⟩, .string ⟨d.toArray⟩] 23)) (w.heap.size) #[.bool false, .string ⟨a.toArray⟩, .string ⟨b.toArray⟩, .int .i64 n, .string ⟨c.toArray⟩, .string ⟨d.toArray⟩] 23 := by have h := Blk.new w #[.bool false, .string ⟨a.toArray⟩, .string ⟨b.toArray⟩, .int .i64 n, .string ⟨c.toArray⟩, .string ⟨d.toArray⟩] 23; exact h
    have BR : Blk ((w.alloc (.cells #[.bool false, .string ⟨a.toArray⟩, .string ⟨b.toArray⟩, .int .i64 n, .string ⟨c.toArray⟩, .string ⟨d.toArray⟩] 23)).alloc (.cells #[.bool false, .string ⟨#[]⟩, .string ⟨#[]⟩, .int .i64 0, .string ⟨#[]⟩, .string ⟨#[]⟩] 23)) (w.heap.size + 1) #[.bool false, .string ⟨#[]⟩, .string ⟨#[]⟩, .int .i64 0, .string ⟨#[]⟩, .string ⟨#[]⟩] 23 := by have h := Blk.new (w.alloc (.cells #[.bool false, .string ⟨a.toArray⟩, .string ⟨b.toArray⟩, .int .i64 n, .string ⟨c.toArray⟩, .string ⟨d.toArray⟩] 23)) #[.bool false, .string ⟨#[]⟩, .string ⟨#[]⟩, .int .i64 0, .string ⟨#[]⟩, .string ⟨#[]⟩] 23; rw [World.size_alloc] at h; exact h
    replace BA := BA.reach (Reach.alloc (Reach.refl _) (.cells #[.bool false, .string ⟨#[]⟩, .string ⟨#[]⟩, .int .i64 0, .string ⟨#[]⟩, .string ⟨#[]⟩] 23))
    have Q : Reach w _ := Reach.alloc (Reach.alloc (Reach.refl w) (.cells #[.bool false, .string ⟨a.toArray⟩, .string ⟨b.toArray⟩, .int .i64 n, .string ⟨c.toArray⟩, .string ⟨d.toArray⟩] 23)) (.cells #[.bool false, .string ⟨#[]⟩, .string ⟨#[]⟩, .int .i64 0, .string ⟨#[]⟩, .string ⟨#[]⟩] 23)
    generalize (w.alloc (.cells #[.bool false, .string ⟨a.toArray⟩, .string ⟨b.toArray⟩, .int .i64 n, .string ⟨c.toArray⟩, .string ⟨d.toArray⟩] 23)).alloc (.cells #[.bool false, .string ⟨#[]⟩, .string ⟨#[]⟩, .int .i64 0, .string ⟨#[]⟩, .string ⟨#[]⟩] 23) = W0 at BA BR Q ⊢
    refine Calls.mono (HK.out _ (Env.reach HE.out Q)) ?_
    rintro e W1 ⟨rfl, hr⟩
    replace BA := BA.reach hr
    replace BR := BR.reach hr
    replace Q := Reach.trans Q hr
    clear hr
    obtain ⟨x0_0, x0_1, x0_2, x0_3, x0_4, x0_5⟩ := BA.six
    have xl0 := BA.lt
    obtain ⟨⟨x1_0, x1_1, x1_2, x1_3, x1_4, x1_5⟩, y1_0, y1_1, y1_2, y1_3, y1_4, y1_5⟩ := BR.sixf
    have xl1 := BR.lt
    go_wp2_with fail
    clear x0_0 x0_1 x0_2 x0_3 x0_4 x0_5 xl0 x1_0 x1_1 x1_2 x1_3 x1_4 x1_5 y1_0 y1_1 y1_2 y1_3 y1_4 y1_5 xl1
    refine Calls.mono (HX.out _ (Env.reach HE.out Q)) ?_
    rintro e W2 ⟨rfl, hr⟩
    replace BA := BA.reach hr
    replace BR := BR.reach hr
    replace Q := Reach.trans Q hr
    clear hr
    obtain ⟨x0_0, x0_1, x0_2, x0_3, x0_4, x0_5⟩ := BA.six
    have xl0 := BA.lt
    obtain ⟨⟨x1_0, x1_1, x1_2, x1_3, x1_4, x1_5⟩, y1_0, y1_1, y1_2, y1_3, y1_4, y1_5⟩ := BR.sixf
    have xl1 := BR.lt
    go_wp2_with fail
    clear x0_0 x0_1 x0_2 x0_3 x0_4 x0_5 xl0 x1_0 x1_1 x1_2 x1_3 x1_4 x1_5 y1_0 y1_1 y1_2 y1_3 y1_4 y1_5 xl1
    refine Calls.mono (HT.out _) ?_
    rintro e W3 ⟨rfl, hr⟩
    replace BA := BA.reach hr
    replace BR := BR.reach hr
    replace Q := Reach.trans Q hr
    clear hr
    obtain ⟨x0_0, x0_1, x0_2, x0_3, x0_4, x0_5⟩ := BA.six
    have xl0 := BA.lt
    obtain ⟨⟨x1_0, x1_1, x1_2, x1_3, x1_4, x1_5⟩, y1_0, y1_1, y1_2, y1_3, y1_4, y1_5⟩ := BR.sixf
    have xl1 := BR.lt
    go_wp2_with fail
    clear x0_0 x0_1 x0_2 x0_3 x0_4 x0_5 xl0 x1_0 x1_1 x1_2 x1_3 x1_4 x1_5 y1_0 y1_1 y1_2 y1_3 y1_4 y1_5 xl1
    refine Calls.mono (HC.out _ (Env.reach HE.out Q)) ?_
    rintro e W4 ⟨rfl, hr⟩
    replace BA := BA.reach hr
    replace BR := BR.reach hr
    replace Q := Reach.trans Q hr
    clear hr
    obtain ⟨x0, x1, x2, x3, x4, x5⟩ := BA.six
    have xl := BA.lt
    have g1 : (0 : Int) ≤ ln := by omega
    have g2 : (ln : Int) - 1 + 1 = ln := by omega
    go_wp2_with (first | (go_at_call 36; (with_reducible refine Calls.mono (HS.out _) ?_); rintro e w' ⟨rfl, rfl⟩) | (go_at_call 37; (with_reducible refine Calls.mono (HL.out _) ?_); rintro e w' ⟨rfl, rfl⟩) | ((with_reducible refine wp_region_quiet_below (by kernel_rfl) (by kernel_rfl) ?_); (repeat (any_goals (first | (go_big_quiet_step ((first | (go_at_call 36; with_reducible exact reg_pure (HS.out _)) | (go_at_call 37; with_reducible exact reg_pure (HL.out _))))) | (quiet_step ((first | (go_at_call 36; with_reducible exact reg_pure (HS.out _)) | (go_at_call 37; with_reducible exact reg_pure (HL.out _))))) | (refine wpQuiet_step (fun K hK => ?_); go_simp; split <;> (refine hK _ ?_; clear hK K))))); all_goals (refine wpQuiet_nil ?_; intro _ hw'; obtain ⟨⟨dq, osq⟩, hw''⟩ := hw'; subst hw'')))
    replace BR := BR.reach (Reach.grow (Reach.refl W4) dq osq)
    replace Q := Reach.grow Q dq osq
    clear x0 x1 x2 x3 x4 x5 xl BA g1 g2
    generalize grow (redrawn W4 dq) osq = W4 at BR Q ⊢
    refine Calls.mono (HP.out _ (Env.reach HE.out Q)) ?_
    rintro e W5 ⟨rfl, hr⟩
    replace BR := BR.reach hr
    replace Q := Reach.trans Q hr
    clear hr
    obtain ⟨⟨x0_0, x0_1, x0_2, x0_3, x0_4, x0_5⟩, y0_0, y0_1, y0_2, y0_3, y0_4, y0_5⟩ := BR.sixf
    have xl0 := BR.lt
    go_wp2_with fail
    clear x0_0 x0_1 x0_2 x0_3 x0_4 x0_5 y0_0 y0_1 y0_2 y0_3 y0_4 y0_5 xl0
    have BR1 := ((((((BR.put 0 (.bool u0)).put 1 (.string ⟨u1.toArray⟩)).put 2 (.string ⟨u2.toArray⟩)).put 3 (.int .i64 u3)).put 4 (.string ⟨u4.toArray⟩)).put 5 (.string ⟨u5.toArray⟩))
    obtain ⟨r0, r1, r2, r3, r4, r5⟩ := BR1.six
    refine bodyPost_ret (v := .tuple #[.agg #[.bool u0, .string ⟨u1.toArray⟩, .string ⟨u2.toArray⟩, .int .i64 u3, .string ⟨u4.toArray⟩, .string ⟨u5.toArray⟩], .int .i64 je]) (by simp [results, Tryz.results12, go_sem, r0, r1, r2, r3, r4, r5]) rfl ⟨rfl, ?_⟩
    exact Reach.setCell (Reach.setCell (Reach.setCell (Reach.setCell (Reach.setCell (Reach.setCell Q (by simp) _) (by simp) _) (by simp) _) (by simp) _) (by simp) _) (by simp) _
end Go.Proofs.YtbeaheicjopooaaGreatDoor
