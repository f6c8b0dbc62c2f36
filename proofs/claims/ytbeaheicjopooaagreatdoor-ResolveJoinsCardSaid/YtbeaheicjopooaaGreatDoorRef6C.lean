/- What the reference answers of joined texts: the address; texts of at most 40000 bytes. -/
import Derived.Test.YtbeaheicjopooaaGreatDoorProg
import Derived.Test.YtbeaheicjopooaaGreatDoorRef6B
import Derived.Test.YtbeaheicjopooaaGreatDoorPureG
namespace Go.Proofs.YtbeaheicjopooaaGreatDoor
open Go.RowKit Go.Sort
attribute [local go_sem] get_mk mk_append mk_extract0 mk_extract_end mk_extract_cons empty_mk cell_grow frozen_grow size_grow
set_option maxRecDepth 100000 in
set_option maxHeartbeats 4000000 in
theorem rjoin_calls (o : Bool) (a b : List UInt8) (n : Int) (c d : List UInt8) (ref : List UInt8) (w : World) (h1 : -9223372036854775808 ≤ n) (h2 : n ≤ 9223372036854775807)
    (ha : a.length ≤ 100000) (hb : b.length ≤ 100000) (hc : c.length ≤ 100000) (hd : d.length ≤ 100000) (hr : ref.length ≤ 40000) :
    Calls Tryz.prog 13 #[.agg #[.bool o, .string ⟨a.toArray⟩, .string ⟨b.toArray⟩, .int .i64 n, .string ⟨c.toArray⟩, .string ⟨d.toArray⟩], .string ⟨ref.toArray⟩] w fun e w' =>
      e = .returned (.tuple #[urlV (joinU ⟨o, a, b, n, c, d⟩ ref), .int .i64 (joinE ⟨o, a, b, n, c, d⟩ ref)]) ∧ Reach w w' := by
  have hk := fun W => rkind_calls ref W (by omega)
  have hju : joinU ⟨o, a, b, n, c, d⟩ ref = if kindL ref = 1 then parseU ref else if baseOk ⟨o, a, b, n, c, d⟩ then parseU (joinT ⟨o, a, b, n, c, d⟩ (kindL ref) (frontL (trimL ref) [35])) else zeroU := rfl
  have hje : joinE ⟨o, a, b, n, c, d⟩ ref = if kindL ref = 1 then parseE ref else if baseOk ⟨o, a, b, n, c, d⟩ then parseE (joinT ⟨o, a, b, n, c, d⟩ (kindL ref) (frontL (trimL ref) [35])) else 51 := rfl
  have hkb := kindL_bounds ref
  generalize joinU ⟨o, a, b, n, c, d⟩ ref = ju at *
  generalize joinE ⟨o, a, b, n, c, d⟩ ref = je at *
  by_cases k1 : kindL ref = 1
  · rw [if_pos k1] at hju hje
    rw [k1] at hk
    have hp := fun W => rparse_calls ref W (by omega)
    rw [← hju, ← hje] at hp
    have HK := Lib.hid hk
    have HP := Lib.hid hp
    clear hk hp hju hje k1 hkb
    obtain ⟨u0, u1, u2, u3, u4, u5⟩ := ju
    unfold urlV
    go_enter Tryz.func13, Tryz.ntmps13
    go_wp2_with fail
    have BA : Blk (w.alloc (.cells #[.bool o, .string ⟨a.toArray⟩, .string ⟨b.toArray⟩, .int .i64 n, .string ⟨c.toArray⟩, .string ⟨d.toArray⟩] 23)) (w.heap.size) #[.bool o, .string ⟨a.toArray⟩, .string ⟨b.toArray⟩, .int .i64 n, .string ⟨c.toArray⟩, .string ⟨d.toArray⟩] 23 := by have h := Blk.new w #[.bool o, .string ⟨a.toArray⟩, .string ⟨b.toArray⟩, .int .i64 n, .string ⟨c.toArray⟩, .string ⟨d.toArray⟩] 23; exact h
    have BR : Blk ((w.alloc (.cells #[.bool o, .string ⟨a.toArray⟩, .string ⟨b.toArray⟩, .int .i64 n, .string ⟨c.toArray⟩, .string ⟨d.toArray⟩] 23)).alloc (.cells #[.bool false, .string ⟨#[]⟩, .string ⟨#[]⟩, .int .i64 0, .string ⟨#[]⟩, .string ⟨#[]⟩] 23)) (w.heap.size + 1) #[.bool false, .string ⟨#[]⟩, .string ⟨#[]⟩, .int .i64 0, .string ⟨#[]⟩, .string ⟨#[]⟩] 23 := by have h := Blk.new (w.alloc (.cells #[.bool o, .string ⟨a.toArray⟩, .string ⟨b.toArray⟩, .int .i64 n, .string ⟨c.toArray⟩, .string ⟨d.toArray⟩] 23)) #[.bool false, .string ⟨#[]⟩, .string ⟨#[]⟩, .int .i64 0, .string ⟨#[]⟩, .string ⟨#[]⟩] 23; rw [World.size_alloc] at h; exact h
    replace BA := BA.reach (Reach.alloc (Reach.refl _) (.cells #[.bool false, .string ⟨#[]⟩, .string ⟨#[]⟩, .int .i64 0, .string ⟨#[]⟩, .string ⟨#[]⟩] 23))
    have Q : Reach w _ := Reach.alloc (Reach.alloc (Reach.refl w) (.cells #[.bool o, .string ⟨a.toArray⟩, .string ⟨b.toArray⟩, .int .i64 n, .string ⟨c.toArray⟩, .string ⟨d.toArray⟩] 23)) (.cells #[.bool false, .string ⟨#[]⟩, .string ⟨#[]⟩, .int .i64 0, .string ⟨#[]⟩, .string ⟨#[]⟩] 23)
    generalize (w.alloc (.cells #[.bool o, .string ⟨a.toArray⟩, .string ⟨b.toArray⟩, .int .i64 n, .string ⟨c.toArray⟩, .string ⟨d.toArray⟩] 23)).alloc (.cells #[.bool false, .string ⟨#[]⟩, .string ⟨#[]⟩, .int .i64 0, .string ⟨#[]⟩, .string ⟨#[]⟩] 23) = W0 at BA BR Q ⊢
    (with_reducible refine Calls.mono (HK.out _) ?_)
    rintro e W1 ⟨rfl, hr⟩
    replace BA := BA.reach hr
    replace BR := BR.reach hr
    replace Q := Reach.trans Q hr
    clear hr
    obtain ⟨x0_0, x0_1, x0_2, x0_3, x0_4, x0_5⟩ := BA.six
    have xl0 := BA.lt
    obtain ⟨⟨x1_0, x1_1, x1_2, x1_3, x1_4, x1_5⟩, y1_0, y1_1, y1_2, y1_3, y1_4, y1_5⟩ := BR.sixf
    have xl1 := BR.lt
    go_wp2_with fail
    clear x0_0 x0_1 x0_2 x0_3 x0_4 x0_5 xl0 x1_0 x1_1 x1_2 x1_3 x1_4 x1_5 y1_0 y1_1 y1_2 y1_3 y1_4 y1_5 xl1
    (with_reducible refine Calls.mono (HP.out _) ?_)
    rintro e W2 ⟨rfl, hr⟩
    replace BR := BR.reach hr
    replace Q := Reach.trans Q hr
    clear hr
    obtain ⟨⟨x0_0, x0_1, x0_2, x0_3, x0_4, x0_5⟩, y0_0, y0_1, y0_2, y0_3, y0_4, y0_5⟩ := BR.sixf
    have xl0 := BR.lt
    go_wp2_with fail
    clear x0_0 x0_1 x0_2 x0_3 x0_4 x0_5 y0_0 y0_1 y0_2 y0_3 y0_4 y0_5 xl0
    have BR1 := ((((((BR.put 0 (.bool u0)).put 1 (.string ⟨u1.toArray⟩)).put 2 (.string ⟨u2.toArray⟩)).put 3 (.int .i64 u3)).put 4 (.string ⟨u4.toArray⟩)).put 5 (.string ⟨u5.toArray⟩))
    obtain ⟨r0, r1, r2, r3, r4, r5⟩ := BR1.six
    refine bodyPost_ret (v := .tuple #[.agg #[.bool u0, .string ⟨u1.toArray⟩, .string ⟨u2.toArray⟩, .int .i64 u3, .string ⟨u4.toArray⟩, .string ⟨u5.toArray⟩], .int .i64 je]) (by simp [results, Tryz.results13, go_sem, r0, r1, r2, r3, r4, r5]) rfl ⟨rfl, ?_⟩
    exact Reach.setCell (Reach.setCell (Reach.setCell (Reach.setCell (Reach.setCell (Reach.setCell Q (by simp) _) (by simp) _) (by simp) _) (by simp) _) (by simp) _) (by simp) _
  rw [if_neg k1] at hju hje
  have hx := fun W => rright_calls o a b n c d W h1 h2 (by omega) (by omega) (by omega) (by omega)
  cases hck : checkB ⟨o, a, b, n, c, d⟩
  · have hb0 : baseOk ⟨o, a, b, n, c, d⟩ = false := by unfold baseOk; rw [hck]; rfl
    rw [hb0] at hju hje
    simp only [Bool.false_eq_true, if_false] at hju hje
    rw [hck] at hx
    clear hck hb0
    subst hju hje
    have HK := Lib.hid hk
    have HX := Lib.hid hx
    clear hk hx hkb
    unfold urlV zeroU
    have k1b : (kindL ref == 1) = false := by simpa using k1
    generalize kindL ref = k at *
    clear k1
    go_enter Tryz.func13, Tryz.ntmps13
    go_wp2_with fail
    have BA : Blk (w.alloc (.cells #[.bool o, .string ⟨a.toArray⟩, .string ⟨b.toArray⟩, .int .i64 n, .string ⟨c.toArray⟩, .string ⟨d.toArray⟩] 23)) (w.heap.size) #[.bool o, .string ⟨a.toArray⟩, .string ⟨b.toArray⟩, .int .i64 n, .string ⟨c.toArray⟩, .string ⟨d.toArray⟩] 23 := by have h := Blk.new w #[.bool o, .string ⟨a.toArray⟩, .string ⟨b.toArray⟩, .int .i64 n, .string ⟨c.toArray⟩, .string ⟨d.toArray⟩] 23; exact h
    have BR : Blk ((w.alloc (.cells #[.bool o, .string ⟨a.toArray⟩, .string ⟨b.toArray⟩, .int .i64 n, .string ⟨c.toArray⟩, .string ⟨d.toArray⟩] 23)).alloc (.cells #[.bool false, .string ⟨#[]⟩, .string ⟨#[]⟩, .int .i64 0, .string ⟨#[]⟩, .string ⟨#[]⟩] 23)) (w.heap.size + 1) #[.bool false, .string ⟨#[]⟩, .string ⟨#[]⟩, .int .i64 0, .string ⟨#[]⟩, .string ⟨#[]⟩] 23 := by have h := Blk.new (w.alloc (.cells #[.bool o, .string ⟨a.toArray⟩, .string ⟨b.toArray⟩, .int .i64 n, .string ⟨c.toArray⟩, .string ⟨d.toArray⟩] 23)) #[.bool false, .string ⟨#[]⟩, .string ⟨#[]⟩, .int .i64 0, .string ⟨#[]⟩, .string ⟨#[]⟩] 23; rw [World.size_alloc] at h; exact h
    replace BA := BA.reach (Reach.alloc (Reach.refl _) (.cells #[.bool false, .string ⟨#[]⟩, .string ⟨#[]⟩, .int .i64 0, .string ⟨#[]⟩, .string ⟨#[]⟩] 23))
    have Q : Reach w _ := Reach.alloc (Reach.alloc (Reach.refl w) (.cells #[.bool o, .string ⟨a.toArray⟩, .string ⟨b.toArray⟩, .int .i64 n, .string ⟨c.toArray⟩, .string ⟨d.toArray⟩] 23)) (.cells #[.bool false, .string ⟨#[]⟩, .string ⟨#[]⟩, .int .i64 0, .string ⟨#[]⟩, .string ⟨#[]⟩] 23)
    generalize (w.alloc (.cells #[.bool o, .string ⟨a.toArray⟩, .string ⟨b.toArray⟩, .int .i64 n, .string ⟨c.toArray⟩, .string ⟨d.toArray⟩] 23)).alloc (.cells #[.bool false, .string ⟨#[]⟩, .string ⟨#[]⟩, .int .i64 0, .string ⟨#[]⟩, .string ⟨#[]⟩] 23) = W0 at BA BR Q ⊢
    (with_reducible refine Calls.mono (HK.out _) ?_)
    rintro e W1 ⟨rfl, hr⟩
    replace BA := BA.reach hr
    replace BR := BR.reach hr
    replace Q := Reach.trans Q hr
    clear hr
    obtain ⟨x0_0, x0_1, x0_2, x0_3, x0_4, x0_5⟩ := BA.six
    have xl0 := BA.lt
    obtain ⟨⟨x1_0, x1_1, x1_2, x1_3, x1_4, x1_5⟩, y1_0, y1_1, y1_2, y1_3, y1_4, y1_5⟩ := BR.sixf
    have xl1 := BR.lt
    go_wp2_with fail
    clear x0_0 x0_1 x0_2 x0_3 x0_4 x0_5 xl0 x1_0 x1_1 x1_2 x1_3 x1_4 x1_5 y1_0 y1_1 y1_2 y1_3 y1_4 y1_5 xl1
    (with_reducible refine Calls.mono (HX.out _) ?_)
    rintro e W2 ⟨rfl, hr⟩
    replace BA := BA.reach hr
    replace BR := BR.reach hr
    replace Q := Reach.trans Q hr
    clear hr
    obtain ⟨x0_0, x0_1, x0_2, x0_3, x0_4, x0_5⟩ := BA.six
    have xl0 := BA.lt
    obtain ⟨⟨x1_0, x1_1, x1_2, x1_3, x1_4, x1_5⟩, y1_0, y1_1, y1_2, y1_3, y1_4, y1_5⟩ := BR.sixf
    have xl1 := BR.lt
    go_wp2_with fail
    clear x0_0 x0_1 x0_2 x0_3 x0_4 x0_5 xl0 x1_0 x1_1 x1_2 x1_3 x1_4 x1_5 y1_0 y1_1 y1_2 y1_3 y1_4 y1_5 xl1
    have BR1 := ((((((BR.put 0 (.bool false)).put 1 (.string ⟨#[]⟩)).put 2 (.string ⟨#[]⟩)).put 3 (.int .i64 0)).put 4 (.string ⟨#[]⟩)).put 5 (.string ⟨#[]⟩))
    obtain ⟨r0, r1, r2, r3, r4, r5⟩ := BR1.six
    refine bodyPost_ret (v := .tuple #[.agg #[.bool false, .string ⟨#[]⟩, .string ⟨#[]⟩, .int .i64 0, .string ⟨#[]⟩, .string ⟨#[]⟩], .int .i64 51]) (by simp [results, Tryz.results13, go_sem, r0, r1, r2, r3, r4, r5]) rfl ⟨rfl, ?_⟩
    exact Reach.setCell (Reach.setCell (Reach.setCell (Reach.setCell (Reach.setCell (Reach.setCell Q (by simp) _) (by simp) _) (by simp) _) (by simp) _) (by simp) _) (by simp) _
  rw [hck] at hx
  cases o
  rotate_left
  · have hb0 : baseOk ⟨true, a, b, n, c, d⟩ = false := by unfold baseOk; rw [hck]; rfl
    rw [hb0] at hju hje
    simp only [Bool.false_eq_true, if_false] at hju hje
    clear hck hb0
    subst hju hje
    have HK := Lib.hid hk
    have HX := Lib.hid hx
    clear hk hx hkb
    unfold urlV zeroU
    have k1b : (kindL ref == 1) = false := by simpa using k1
    generalize kindL ref = k at *
    clear k1
    go_enter Tryz.func13, Tryz.ntmps13
    go_wp2_with fail
    have BA : Blk (w.alloc (.cells #[.bool true, .string ⟨a.toArray⟩, .string ⟨b.toArray⟩, .int .i64 n, .string ⟨c.toArray⟩, .string ⟨d.toArray⟩] 23)) (w.heap.size) #[.bool true, .string ⟨a.toArray⟩, .string ⟨b.toArray⟩, .int .i64 n, .string ⟨c.toArray⟩, .string ⟨d.toArray⟩] 23 := by have h := Blk.new w #[.bool true, .string ⟨a.toArray⟩, .string ⟨b.toArray⟩, .int .i64 n, .string ⟨c.toArray⟩, .string ⟨d.toArray⟩] 23; exact h
    have BR : Blk ((w.alloc (.cells #[.bool true, .string ⟨a.toArray⟩, .string ⟨b.toArray⟩, .int .i64 n, .string ⟨c.toArray⟩, .string ⟨d.toArray⟩] 23)).alloc (.cells #[.bool false, .string ⟨#[]⟩, .string ⟨#[]⟩, .int .i64 0, .string ⟨#[]⟩, .string ⟨#[]⟩] 23)) (w.heap.size + 1) #[.bool false, .string ⟨#[]⟩, .string ⟨#[]⟩, .int .i64 0, .string ⟨#[]⟩, .string ⟨#[]⟩] 23 := by have h := Blk.new (w.alloc (.cells #[.bool true, .string ⟨a.toArray⟩, .string ⟨b.toArray⟩, .int .i64 n, .string ⟨c.toArray⟩, .string ⟨d.toArray⟩] 23)) #[.bool false, .string ⟨#[]⟩, .string ⟨#[]⟩, .int .i64 0, .string ⟨#[]⟩, .string ⟨#[]⟩] 23; rw [World.size_alloc] at h; exact h
    replace BA := BA.reach (Reach.alloc (Reach.refl _) (.cells #[.bool false, .string ⟨#[]⟩, .string ⟨#[]⟩, .int .i64 0, .string ⟨#[]⟩, .string ⟨#[]⟩] 23))
    have Q : Reach w _ := Reach.alloc (Reach.alloc (Reach.refl w) (.cells #[.bool true, .string ⟨a.toArray⟩, .string ⟨b.toArray⟩, .int .i64 n, .string ⟨c.toArray⟩, .string ⟨d.toArray⟩] 23)) (.cells #[.bool false, .string ⟨#[]⟩, .string ⟨#[]⟩, .int .i64 0, .string ⟨#[]⟩, .string ⟨#[]⟩] 23)
    generalize (w.alloc (.cells #[.bool true, .string ⟨a.toArray⟩, .string ⟨b.toArray⟩, .int .i64 n, .string ⟨c.toArray⟩, .string ⟨d.toArray⟩] 23)).alloc (.cells #[.bool false, .string ⟨#[]⟩, .string ⟨#[]⟩, .int .i64 0, .string ⟨#[]⟩, .string ⟨#[]⟩] 23) = W0 at BA BR Q ⊢
    (with_reducible refine Calls.mono (HK.out _) ?_)
    rintro e W1 ⟨rfl, hr⟩
    replace BA := BA.reach hr
    replace BR := BR.reach hr
    replace Q := Reach.trans Q hr
    clear hr
    obtain ⟨x0_0, x0_1, x0_2, x0_3, x0_4, x0_5⟩ := BA.six
    have xl0 := BA.lt
    obtain ⟨⟨x1_0, x1_1, x1_2, x1_3, x1_4, x1_5⟩, y1_0, y1_1, y1_2, y1_3, y1_4, y1_5⟩ := BR.sixf
    have xl1 := BR.lt
    go_wp2_with fail
    clear x0_0 x0_1 x0_2 x0_3 x0_4 x0_5 xl0 x1_0 x1_1 x1_2 x1_3 x1_4 x1_5 y1_0 y1_1 y1_2 y1_3 y1_4 y1_5 xl1
    (with_reducible refine Calls.mono (HX.out _) ?_)
    rintro e W2 ⟨rfl, hr⟩
    replace BA := BA.reach hr
    replace BR := BR.reach hr
    replace Q := Reach.trans Q hr
    clear hr
    obtain ⟨x0_0, x0_1, x0_2, x0_3, x0_4, x0_5⟩ := BA.six
    have xl0 := BA.lt
    obtain ⟨⟨x1_0, x1_1, x1_2, x1_3, x1_4, x1_5⟩, y1_0, y1_1, y1_2, y1_3, y1_4, y1_5⟩ := BR.sixf
    have xl1 := BR.lt
    go_wp2_with fail
    clear x0_0 x0_1 x0_2 x0_3 x0_4 x0_5 xl0 x1_0 x1_1 x1_2 x1_3 x1_4 x1_5 y1_0 y1_1 y1_2 y1_3 y1_4 y1_5 xl1
    have BR1 := ((((((BR.put 0 (.bool false)).put 1 (.string ⟨#[]⟩)).put 2 (.string ⟨#[]⟩)).put 3 (.int .i64 0)).put 4 (.string ⟨#[]⟩)).put 5 (.string ⟨#[]⟩))
    obtain ⟨r0, r1, r2, r3, r4, r5⟩ := BR1.six
    refine bodyPost_ret (v := .tuple #[.agg #[.bool false, .string ⟨#[]⟩, .string ⟨#[]⟩, .int .i64 0, .string ⟨#[]⟩, .string ⟨#[]⟩], .int .i64 51]) (by simp [results, Tryz.results13, go_sem, r0, r1, r2, r3, r4, r5]) rfl ⟨rfl, ?_⟩
    exact Reach.setCell (Reach.setCell (Reach.setCell (Reach.setCell (Reach.setCell (Reach.setCell Q (by simp) _) (by simp) _) (by simp) _) (by simp) _) (by simp) _) (by simp) _
  have hb0 : baseOk ⟨false, a, b, n, c, d⟩ = true := by unfold baseOk; rw [hck]; rfl
  rw [hb0] at hju hje
  simp only [if_true] at hju hje
  obtain ⟨-, -, hlen, -, hpar⟩ := checkB_parts _ hck
  obtain ⟨-, hn0, hn1, -⟩ := hpar rfl
  simp only at hn0 hn1
  obtain ⟨hsa, -⟩ := small_of _ hck
  simp only at hsa
  have htx := textL_front ⟨false, a, b, n, c, d⟩ rfl
  have htf := textL_front ⟨false, a, b, n, [], []⟩ rfl
  simp only [List.append_nil] at htf
  have hG := fun W => rtext_calls false a b n c d W (by omega) (by omega) (by omega) (by omega) (by omega) (by omega)
  have hF := fun W => rtext_calls false a b n [] [] W (by omega) (by omega) (by omega) (by omega) (by simp) (by simp)
  rw [htx] at hG hlen
  rw [htf] at hF
  simp only [joinT, htx] at hju hje
  simp only at hG hF
  generalize frontT a b n = F at *
  clear hck hb0 htx htf
  simp only [List.length_append] at hlen
  have hT := fun W => rtrim_calls ref W (by omega)
  have hl1 := trimL_length ref
  have hl2 := frontL_length (trimL ref) [35]
  have hC := fun W => rcut_calls (trimL ref) [35] W (by omega) (by simp)
  have hLs := fun W => folder6_calls c W (by omega)
  have hln := lastN_le c
  have hfl : (folderL c).length ≤ c.length := by unfold folderL; simp; omega
  generalize trimL ref = ts at *
  generalize frontL ts [35] = r at *
  generalize restL ts [35] = junk at *
  generalize folderL c = fo at *
  have HX := Lib.hid hx
  have HT := Lib.hid hT
  have HC := Lib.hid hC
  have HF := Lib.hid hF
  have HG := Lib.hid hG
  have HL := Lib.hid hLs
  clear hx hT hC hF hG hLs
  have hk6 : kindL ref = 2 ∨ kindL ref = 3 ∨ kindL ref = 4 ∨ kindL ref = 5 ∨ kindL ref = 6 := by omega
  clear k1 hkb
  rcases hk6 with k | k | k | k | k
  · rw [k] at hk hju hje
    simp at hju hje
    have hp := fun W => rparse_calls (a ++ 58 :: r) W (by simp; omega)
    rw [← hju, ← hje] at hp
    have HK := Lib.hid hk
    have HP := Lib.hid hp
    clear hk hp hju hje k
    obtain ⟨u0, u1, u2, u3, u4, u5⟩ := ju
    unfold urlV
    go_enter Tryz.func13, Tryz.ntmps13
    go_wp2_with fail
    have BA : Blk (w.alloc (.cells #[.bool false, .string ⟨a.toArray⟩, .string ⟨b.toArray⟩, .int .i64 n, .string ⟨c.toArray⟩, .string ⟨d.toArray⟩] 23)) (w.heap.size) #[.bool false, .string ⟨a.toArray⟩, .string ⟨b.toArray⟩, .int .i64 n, .string ⟨c.toArray⟩, .string ⟨d.toArray⟩] 23 := by have h := Blk.new w #[.bool false, .string ⟨a.toArray⟩, .string ⟨b.toArray⟩, .int .i64 n, .string ⟨c.toArray⟩, .string ⟨d.toArray⟩] 23; exact h
    have BR : Blk ((w.alloc (.cells #[.bool false, .string ⟨a.toArray⟩, .string ⟨b.toArray⟩, .int .i64 n, .string ⟨c.toArray⟩, .string ⟨d.toArray⟩] 23)).alloc (.cells #[.bool false, .string ⟨#[]⟩, .string ⟨#[]⟩, .int .i64 0, .string ⟨#[]⟩, .string ⟨#[]⟩] 23)) (w.heap.size + 1) #[.bool false, .string ⟨#[]⟩, .string ⟨#[]⟩, .int .i64 0, .string ⟨#[]⟩, .string ⟨#[]⟩] 23 := by have h := Blk.new (w.alloc (.cells #[.bool false, .string ⟨a.toArray⟩, .string ⟨b.toArray⟩, .int .i64 n, .string ⟨c.toArray⟩, .string ⟨d.toArray⟩] 23)) #[.bool false, .string ⟨#[]⟩, .string ⟨#[]⟩, .int .i64 0, .string ⟨#[]⟩, .string ⟨#[]⟩] 23; rw [World.size_alloc] at h; exact h
    replace BA := BA.reach (Reach.alloc (Reach.refl _) (.cells #[.bool false, .string ⟨#[]⟩, .string ⟨#[]⟩, .int .i64 0, .string ⟨#[]⟩, .string ⟨#[]⟩] 23))
    have Q : Reach w _ := Reach.alloc (Reach.alloc (Reach.refl w) (.cells #[.bool false, .string ⟨a.toArray⟩, .string ⟨b.toArray⟩, .int .i64 n, .string ⟨c.toArray⟩, .string ⟨d.toArray⟩] 23)) (.cells #[.bool false, .string ⟨#[]⟩, .string ⟨#[]⟩, .int .i64 0, .string ⟨#[]⟩, .string ⟨#[]⟩] 23)
    generalize (w.alloc (.cells #[.bool false, .string ⟨a.toArray⟩, .string ⟨b.toArray⟩, .int .i64 n, .string ⟨c.toArray⟩, .string ⟨d.toArray⟩] 23)).alloc (.cells #[.bool false, .string ⟨#[]⟩, .string ⟨#[]⟩, .int .i64 0, .string ⟨#[]⟩, .string ⟨#[]⟩] 23) = W0 at BA BR Q ⊢
    (with_reducible refine Calls.mono (HK.out _) ?_)
    rintro e W1 ⟨rfl, hr⟩
    replace BA := BA.reach hr
    replace BR := BR.reach hr
    replace Q := Reach.trans Q hr
    clear hr
    obtain ⟨x0_0, x0_1, x0_2, x0_3, x0_4, x0_5⟩ := BA.six
    have xl0 := BA.lt
    obtain ⟨⟨x1_0, x1_1, x1_2, x1_3, x1_4, x1_5⟩, y1_0, y1_1, y1_2, y1_3, y1_4, y1_5⟩ := BR.sixf
    have xl1 := BR.lt
    go_wp2_with fail
    clear x0_0 x0_1 x0_2 x0_3 x0_4 x0_5 xl0 x1_0 x1_1 x1_2 x1_3 x1_4 x1_5 y1_0 y1_1 y1_2 y1_3 y1_4 y1_5 xl1
    (with_reducible refine Calls.mono (HX.out _) ?_)
    rintro e W2 ⟨rfl, hr⟩
    replace BA := BA.reach hr
    replace BR := BR.reach hr
    replace Q := Reach.trans Q hr
    clear hr
    obtain ⟨x0_0, x0_1, x0_2, x0_3, x0_4, x0_5⟩ := BA.six
    have xl0 := BA.lt
    obtain ⟨⟨x1_0, x1_1, x1_2, x1_3, x1_4, x1_5⟩, y1_0, y1_1, y1_2, y1_3, y1_4, y1_5⟩ := BR.sixf
    have xl1 := BR.lt
    go_wp2_with (first | (go_at_call 41; (with_reducible refine Calls.mono (HT.out _) ?_); rintro e w' ⟨rfl, rfl⟩))
    clear x0_0 x0_1 x0_2 x0_3 x0_4 x0_5 xl0 x1_0 x1_1 x1_2 x1_3 x1_4 x1_5 y1_0 y1_1 y1_2 y1_3 y1_4 y1_5 xl1
    (with_reducible refine Calls.mono (HC.out _) ?_)
    rintro e W3 ⟨rfl, hr⟩
    replace BA := BA.reach hr
    replace BR := BR.reach hr
    replace Q := Reach.trans Q hr
    clear hr
    obtain ⟨x0_0, x0_1, x0_2, x0_3, x0_4, x0_5⟩ := BA.six
    have xl0 := BA.lt
    obtain ⟨⟨x1_0, x1_1, x1_2, x1_3, x1_4, x1_5⟩, y1_0, y1_1, y1_2, y1_3, y1_4, y1_5⟩ := BR.sixf
    have xl1 := BR.lt
    go_wp2_with fail
    clear x0_0 x0_1 x0_2 x0_3 x0_4 x0_5 xl0 x1_0 x1_1 x1_2 x1_3 x1_4 x1_5 y1_0 y1_1 y1_2 y1_3 y1_4 y1_5 xl1
    have BF : Blk (W3.alloc (.cells #[.bool false, .string ⟨a.toArray⟩, .string ⟨b.toArray⟩, .int .i64 n, .string ⟨#[]⟩, .string ⟨#[]⟩] 23)) (W3.heap.size) #[.bool false, .string ⟨a.toArray⟩, .string ⟨b.toArray⟩, .int .i64 n, .string ⟨#[]⟩, .string ⟨#[]⟩] 23 := by have h := Blk.new W3 #[.bool false, .string ⟨a.toArray⟩, .string ⟨b.toArray⟩, .int .i64 n, .string ⟨#[]⟩, .string ⟨#[]⟩] 23; exact h
    replace BA := BA.reach (Reach.alloc (Reach.refl _) (.cells #[.bool false, .string ⟨a.toArray⟩, .string ⟨b.toArray⟩, .int .i64 n, .string ⟨#[]⟩, .string ⟨#[]⟩] 23))
    replace BR := BR.reach (Reach.alloc (Reach.refl _) (.cells #[.bool false, .string ⟨a.toArray⟩, .string ⟨b.toArray⟩, .int .i64 n, .string ⟨#[]⟩, .string ⟨#[]⟩] 23))
    replace Q := Reach.alloc Q (.cells #[.bool false, .string ⟨a.toArray⟩, .string ⟨b.toArray⟩, .int .i64 n, .string ⟨#[]⟩, .string ⟨#[]⟩] 23)
    generalize W3.alloc (.cells #[.bool false, .string ⟨a.toArray⟩, .string ⟨b.toArray⟩, .int .i64 n, .string ⟨#[]⟩, .string ⟨#[]⟩] 23) = X3 at BA BR BF Q ⊢
    generalize W3.heap.size = nBF at *
    obtain ⟨x0_0, x0_1, x0_2, x0_3, x0_4, x0_5⟩ := BF.six
    have xl0 := BF.lt
    go_wp2_with fail
    clear x0_0 x0_1 x0_2 x0_3 x0_4 x0_5 xl0
    (with_reducible refine Calls.mono (HF.out _) ?_)
    rintro e W4 ⟨rfl, hr⟩
    replace BA := BA.reach hr
    replace BR := BR.reach hr
    replace Q := Reach.trans Q hr
    clear hr
    clear BF
    obtain ⟨x0_0, x0_1, x0_2, x0_3, x0_4, x0_5⟩ := BA.six
    have xl0 := BA.lt
    obtain ⟨⟨x1_0, x1_1, x1_2, x1_3, x1_4, x1_5⟩, y1_0, y1_1, y1_2, y1_3, y1_4, y1_5⟩ := BR.sixf
    have xl1 := BR.lt
    go_wp2_with fail
    clear x0_0 x0_1 x0_2 x0_3 x0_4 x0_5 xl0 x1_0 x1_1 x1_2 x1_3 x1_4 x1_5 y1_0 y1_1 y1_2 y1_3 y1_4 y1_5 xl1
    (with_reducible refine Calls.mono (HP.out _) ?_)
    rintro e W5 ⟨rfl, hr⟩
    replace BR := BR.reach hr
    replace Q := Reach.trans Q hr
    clear hr
    obtain ⟨⟨x0_0, x0_1, x0_2, x0_3, x0_4, x0_5⟩, y0_0, y0_1, y0_2, y0_3, y0_4, y0_5⟩ := BR.sixf
    have xl0 := BR.lt
    go_wp2_with fail
    clear x0_0 x0_1 x0_2 x0_3 x0_4 x0_5 y0_0 y0_1 y0_2 y0_3 y0_4 y0_5 xl0
    have BR1 := ((((((BR.put 0 (.bool u0)).put 1 (.string ⟨u1.toArray⟩)).put 2 (.string ⟨u2.toArray⟩)).put 3 (.int .i64 u3)).put 4 (.string ⟨u4.toArray⟩)).put 5 (.string ⟨u5.toArray⟩))
    obtain ⟨r0, r1, r2, r3, r4, r5⟩ := BR1.six
    refine bodyPost_ret (v := .tuple #[.agg #[.bool u0, .string ⟨u1.toArray⟩, .string ⟨u2.toArray⟩, .int .i64 u3, .string ⟨u4.toArray⟩, .string ⟨u5.toArray⟩], .int .i64 je]) (by simp [results, Tryz.results13, go_sem, r0, r1, r2, r3, r4, r5]) rfl ⟨rfl, ?_⟩
    exact Reach.setCell (Reach.setCell (Reach.setCell (Reach.setCell (Reach.setCell (Reach.setCell Q (by simp) _) (by simp) _) (by simp) _) (by simp) _) (by simp) _) (by simp) _
  · rw [k] at hk hju hje
    simp at hju hje
    have hp := fun W => rparse_calls (F ++ r) W (by simp; omega)
    rw [← hju, ← hje] at hp
    have HK := Lib.hid hk
    have HP := Lib.hid hp
    clear hk hp hju hje k
    obtain ⟨u0, u1, u2, u3, u4, u5⟩ := ju
    unfold urlV
    go_enter Tryz.func13, Tryz.ntmps13
    go_wp2_with fail
    have BA : Blk (w.alloc (.cells #[.bool false, .string ⟨a.toArray⟩, .string ⟨b.toArray⟩, .int .i64 n, .string ⟨c.toArray⟩, .string ⟨d.toArray⟩] 23)) (w.heap.size) #[.bool false, .string ⟨a.toArray⟩, .string ⟨b.toArray⟩, .int .i64 n, .string ⟨c.toArray⟩, .string ⟨d.toArray⟩] 23 := by have h := Blk.new w #[.bool false, .string ⟨a.toArray⟩, .string ⟨b.toArray⟩, .int .i64 n, .string ⟨c.toArray⟩, .string ⟨d.toArray⟩] 23; exact h
    have BR : Blk ((w.alloc (.cells #[.bool false, .string ⟨a.toArray⟩, .string ⟨b.toArray⟩, .int .i64 n, .string ⟨c.toArray⟩, .string ⟨d.toArray⟩] 23)).alloc (.cells #[.bool false, .string ⟨#[]⟩, .string ⟨#[]⟩, .int .i64 0, .string ⟨#[]⟩, .string ⟨#[]⟩] 23)) (w.heap.size + 1) #[.bool false, .string ⟨#[]⟩, .string ⟨#[]⟩, .int .i64 0, .string ⟨#[]⟩, .string ⟨#[]⟩] 23 := by have h := Blk.new (w.alloc (.cells #[.bool false, .string ⟨a.toArray⟩, .string ⟨b.toArray⟩, .int .i64 n, .string ⟨c.toArray⟩, .string ⟨d.toArray⟩] 23)) #[.bool false, .string ⟨#[]⟩, .string ⟨#[]⟩, .int .i64 0, .string ⟨#[]⟩, .string ⟨#[]⟩] 23; rw [World.size_alloc] at h; exact h
    replace BA := BA.reach (Reach.alloc (Reach.refl _) (.cells #[.bool false, .string ⟨#[]⟩, .string ⟨#[]⟩, .int .i64 0, .string ⟨#[]⟩, .string ⟨#[]⟩] 23))
    have Q : Reach w _ := Reach.alloc (Reach.alloc (Reach.refl w) (.cells #[.bool false, .string ⟨a.toArray⟩, .string ⟨b.toArray⟩, .int .i64 n, .string ⟨c.toArray⟩, .string ⟨d.toArray⟩] 23)) (.cells #[.bool false, .string ⟨#[]⟩, .string ⟨#[]⟩, .int .i64 0, .string ⟨#[]⟩, .string ⟨#[]⟩] 23)
    generalize (w.alloc (.cells #[.bool false, .string ⟨a.toArray⟩, .string ⟨b.toArray⟩, .int .i64 n, .string ⟨c.toArray⟩, .string ⟨d.toArray⟩] 23)).alloc (.cells #[.bool false, .string ⟨#[]⟩, .string ⟨#[]⟩, .int .i64 0, .string ⟨#[]⟩, .string ⟨#[]⟩] 23) = W0 at BA BR Q ⊢
    (with_reducible refine Calls.mono (HK.out _) ?_)
    rintro e W1 ⟨rfl, hr⟩
    replace BA := BA.reach hr
    replace BR := BR.reach hr
    replace Q := Reach.trans Q hr
    clear hr
    obtain ⟨x0_0, x0_1, x0_2, x0_3, x0_4, x0_5⟩ := BA.six
    have xl0 := BA.lt
    obtain ⟨⟨x1_0, x1_1, x1_2, x1_3, x1_4, x1_5⟩, y1_0, y1_1, y1_2, y1_3, y1_4, y1_5⟩ := BR.sixf
    have xl1 := BR.lt
    go_wp2_with fail
    clear x0_0 x0_1 x0_2 x0_3 x0_4 x0_5 xl0 x1_0 x1_1 x1_2 x1_3 x1_4 x1_5 y1_0 y1_1 y1_2 y1_3 y1_4 y1_5 xl1
    (with_reducible refine Calls.mono (HX.out _) ?_)
    rintro e W2 ⟨rfl, hr⟩
    replace BA := BA.reach hr
    replace BR := BR.reach hr
    replace Q := Reach.trans Q hr
    clear hr
    obtain ⟨x0_0, x0_1, x0_2, x0_3, x0_4, x0_5⟩ := BA.six
    have xl0 := BA.lt
    obtain ⟨⟨x1_0, x1_1, x1_2, x1_3, x1_4, x1_5⟩, y1_0, y1_1, y1_2, y1_3, y1_4, y1_5⟩ := BR.sixf
    have xl1 := BR.lt
    go_wp2_with (first | (go_at_call 41; (with_reducible refine Calls.mono (HT.out _) ?_); rintro e w' ⟨rfl, rfl⟩))
    clear x0_0 x0_1 x0_2 x0_3 x0_4 x0_5 xl0 x1_0 x1_1 x1_2 x1_3 x1_4 x1_5 y1_0 y1_1 y1_2 y1_3 y1_4 y1_5 xl1
    (with_reducible refine Calls.mono (HC.out _) ?_)
    rintro e W3 ⟨rfl, hr⟩
    replace BA := BA.reach hr
    replace BR := BR.reach hr
    replace Q := Reach.trans Q hr
    clear hr
    obtain ⟨x0_0, x0_1, x0_2, x0_3, x0_4, x0_5⟩ := BA.six
    have xl0 := BA.lt
    obtain ⟨⟨x1_0, x1_1, x1_2, x1_3, x1_4, x1_5⟩, y1_0, y1_1, y1_2, y1_3, y1_4, y1_5⟩ := BR.sixf
    have xl1 := BR.lt
    go_wp2_with fail
    clear x0_0 x0_1 x0_2 x0_3 x0_4 x0_5 xl0 x1_0 x1_1 x1_2 x1_3 x1_4 x1_5 y1_0 y1_1 y1_2 y1_3 y1_4 y1_5 xl1
    have BF : Blk (W3.alloc (.cells #[.bool false, .string ⟨a.toArray⟩, .string ⟨b.toArray⟩, .int .i64 n, .string ⟨#[]⟩, .string ⟨#[]⟩] 23)) (W3.heap.size) #[.bool false, .string ⟨a.toArray⟩, .string ⟨b.toArray⟩, .int .i64 n, .string ⟨#[]⟩, .string ⟨#[]⟩] 23 := by have h := Blk.new W3 #[.bool false, .string ⟨a.toArray⟩, .string ⟨b.toArray⟩, .int .i64 n, .string ⟨#[]⟩, .string ⟨#[]⟩] 23; exact h
    replace BA := BA.reach (Reach.alloc (Reach.refl _) (.cells #[.bool false, .string ⟨a.toArray⟩, .string ⟨b.toArray⟩, .int .i64 n, .string ⟨#[]⟩, .string ⟨#[]⟩] 23))
    replace BR := BR.reach (Reach.alloc (Reach.refl _) (.cells #[.bool false, .string ⟨a.toArray⟩, .string ⟨b.toArray⟩, .int .i64 n, .string ⟨#[]⟩, .string ⟨#[]⟩] 23))
    replace Q := Reach.alloc Q (.cells #[.bool false, .string ⟨a.toArray⟩, .string ⟨b.toArray⟩, .int .i64 n, .string ⟨#[]⟩, .string ⟨#[]⟩] 23)
    generalize W3.alloc (.cells #[.bool false, .string ⟨a.toArray⟩, .string ⟨b.toArray⟩, .int .i64 n, .string ⟨#[]⟩, .string ⟨#[]⟩] 23) = X3 at BA BR BF Q ⊢
    generalize W3.heap.size = nBF at *
    obtain ⟨x0_0, x0_1, x0_2, x0_3, x0_4, x0_5⟩ := BF.six
    have xl0 := BF.lt
    go_wp2_with fail
    clear x0_0 x0_1 x0_2 x0_3 x0_4 x0_5 xl0
    (with_reducible refine Calls.mono (HF.out _) ?_)
    rintro e W4 ⟨rfl, hr⟩
    replace BA := BA.reach hr
    replace BR := BR.reach hr
    replace Q := Reach.trans Q hr
    clear hr
    clear BF
    obtain ⟨x0_0, x0_1, x0_2, x0_3, x0_4, x0_5⟩ := BA.six
    have xl0 := BA.lt
    obtain ⟨⟨x1_0, x1_1, x1_2, x1_3, x1_4, x1_5⟩, y1_0, y1_1, y1_2, y1_3, y1_4, y1_5⟩ := BR.sixf
    have xl1 := BR.lt
    go_wp2_with fail
    clear x0_0 x0_1 x0_2 x0_3 x0_4 x0_5 xl0 x1_0 x1_1 x1_2 x1_3 x1_4 x1_5 y1_0 y1_1 y1_2 y1_3 y1_4 y1_5 xl1
    (with_reducible refine Calls.mono (HP.out _) ?_)
    rintro e W5 ⟨rfl, hr⟩
    replace BR := BR.reach hr
    replace Q := Reach.trans Q hr
    clear hr
    obtain ⟨⟨x0_0, x0_1, x0_2, x0_3, x0_4, x0_5⟩, y0_0, y0_1, y0_2, y0_3, y0_4, y0_5⟩ := BR.sixf
    have xl0 := BR.lt
    go_wp2_with fail
    clear x0_0 x0_1 x0_2 x0_3 x0_4 x0_5 y0_0 y0_1 y0_2 y0_3 y0_4 y0_5 xl0
    have BR1 := ((((((BR.put 0 (.bool u0)).put 1 (.string ⟨u1.toArray⟩)).put 2 (.string ⟨u2.toArray⟩)).put 3 (.int .i64 u3)).put 4 (.string ⟨u4.toArray⟩)).put 5 (.string ⟨u5.toArray⟩))
    obtain ⟨r0, r1, r2, r3, r4, r5⟩ := BR1.six
    refine bodyPost_ret (v := .tuple #[.agg #[.bool u0, .string ⟨u1.toArray⟩, .string ⟨u2.toArray⟩, .int .i64 u3, .string ⟨u4.toArray⟩, .string ⟨u5.toArray⟩], .int .i64 je]) (by simp [results, Tryz.results13, go_sem, r0, r1, r2, r3, r4, r5]) rfl ⟨rfl, ?_⟩
    exact Reach.setCell (Reach.setCell (Reach.setCell (Reach.setCell (Reach.setCell (Reach.setCell Q (by simp) _) (by simp) _) (by simp) _) (by simp) _) (by simp) _) (by simp) _
  · rw [k] at hk hju hje
    simp at hju hje
    have hp := fun W => rparse_calls (F ++ (c ++ d)) W (by simp; omega)
    rw [← hju, ← hje] at hp
    have HK := Lib.hid hk
    have HP := Lib.hid hp
    clear hk hp hju hje k
    obtain ⟨u0, u1, u2, u3, u4, u5⟩ := ju
    unfold urlV
    go_enter Tryz.func13, Tryz.ntmps13
    go_wp2_with fail
    have BA : Blk (w.alloc (.cells #[.bool false, .string ⟨a.toArray⟩, .string ⟨b.toArray⟩, .int .i64 n, .string ⟨c.toArray⟩, .string ⟨d.toArray⟩] 23)) (w.heap.size) #[.bool false, .string ⟨a.toArray⟩, .string ⟨b.toArray⟩, .int .i64 n, .string ⟨c.toArray⟩, .string ⟨d.toArray⟩] 23 := by have h := Blk.new w #[.bool false, .string ⟨a.toArray⟩, .string ⟨b.toArray⟩, .int .i64 n, .string ⟨c.toArray⟩, .string ⟨d.toArray⟩] 23; exact h
    have BR : Blk ((w.alloc (.cells #[.bool false, .string ⟨a.toArray⟩, .string ⟨b.toArray⟩, .int .i64 n, .string ⟨c.toArray⟩, .string ⟨d.toArray⟩] 23)).alloc (.cells #[.bool false, .string ⟨#[]⟩, .string ⟨#[]⟩, .int .i64 0, .string ⟨#[]⟩, .string ⟨#[]⟩] 23)) (w.heap.size + 1) #[.bool false, .string ⟨#[]⟩, .string ⟨#[]⟩, .int .i64 0, .string ⟨#[]⟩, .string ⟨#[]⟩] 23 := by have h := Blk.new (w.alloc (.cells #[.bool false, .string ⟨a.toArray⟩, .string ⟨b.toArray⟩, .int .i64 n, .string ⟨c.toArray⟩, .string ⟨d.toArray⟩] 23)) #[.bool false, .string ⟨#[]⟩, .string ⟨#[]⟩, .int .i64 0, .string ⟨#[]⟩, .string ⟨#[]⟩] 23; rw [World.size_alloc] at h; exact h
    replace BA := BA.reach (Reach.alloc (Reach.refl _) (.cells #[.bool false, .string ⟨#[]⟩, .string ⟨#[]⟩, .int .i64 0, .string ⟨#[]⟩, .string ⟨#[]⟩] 23))
    have Q : Reach w _ := Reach.alloc (Reach.alloc (Reach.refl w) (.cells #[.bool false, .string ⟨a.toArray⟩, .string ⟨b.toArray⟩, .int .i64 n, .string ⟨c.toArray⟩, .string ⟨d.toArray⟩] 23)) (.cells #[.bool false, .string ⟨#[]⟩, .string ⟨#[]⟩, .int .i64 0, .string ⟨#[]⟩, .string ⟨#[]⟩] 23)
    generalize (w.alloc (.cells #[.bool false, .string ⟨a.toArray⟩, .string ⟨b.toArray⟩, .int .i64 n, .string ⟨c.toArray⟩, .string ⟨d.toArray⟩] 23)).alloc (.cells #[.bool false, .string ⟨#[]⟩, .string ⟨#[]⟩, .int .i64 0, .string ⟨#[]⟩, .string ⟨#[]⟩] 23) = W0 at BA BR Q ⊢
    (with_reducible refine Calls.mono (HK.out _) ?_)
    rintro e W1 ⟨rfl, hr⟩
    replace BA := BA.reach hr
    replace BR := BR.reach hr
    replace Q := Reach.trans Q hr
    clear hr
    obtain ⟨x0_0, x0_1, x0_2, x0_3, x0_4, x0_5⟩ := BA.six
    have xl0 := BA.lt
    obtain ⟨⟨x1_0, x1_1, x1_2, x1_3, x1_4, x1_5⟩, y1_0, y1_1, y1_2, y1_3, y1_4, y1_5⟩ := BR.sixf
    have xl1 := BR.lt
    go_wp2_with fail
    clear x0_0 x0_1 x0_2 x0_3 x0_4 x0_5 xl0 x1_0 x1_1 x1_2 x1_3 x1_4 x1_5 y1_0 y1_1 y1_2 y1_3 y1_4 y1_5 xl1
    (with_reducible refine Calls.mono (HX.out _) ?_)
    rintro e W2 ⟨rfl, hr⟩
    replace BA := BA.reach hr
    replace BR := BR.reach hr
    replace Q := Reach.trans Q hr
    clear hr
    obtain ⟨x0_0, x0_1, x0_2, x0_3, x0_4, x0_5⟩ := BA.six
    have xl0 := BA.lt
    obtain ⟨⟨x1_0, x1_1, x1_2, x1_3, x1_4, x1_5⟩, y1_0, y1_1, y1_2, y1_3, y1_4, y1_5⟩ := BR.sixf
    have xl1 := BR.lt
    go_wp2_with (first | (go_at_call 41; (with_reducible refine Calls.mono (HT.out _) ?_); rintro e w' ⟨rfl, rfl⟩))
    clear x0_0 x0_1 x0_2 x0_3 x0_4 x0_5 xl0 x1_0 x1_1 x1_2 x1_3 x1_4 x1_5 y1_0 y1_1 y1_2 y1_3 y1_4 y1_5 xl1
    (with_reducible refine Calls.mono (HC.out _) ?_)
    rintro e W3 ⟨rfl, hr⟩
    replace BA := BA.reach hr
    replace BR := BR.reach hr
    replace Q := Reach.trans Q hr
    clear hr
    obtain ⟨x0_0, x0_1, x0_2, x0_3, x0_4, x0_5⟩ := BA.six
    have xl0 := BA.lt
    obtain ⟨⟨x1_0, x1_1, x1_2, x1_3, x1_4, x1_5⟩, y1_0, y1_1, y1_2, y1_3, y1_4, y1_5⟩ := BR.sixf
    have xl1 := BR.lt
    go_wp2_with fail
    clear x0_0 x0_1 x0_2 x0_3 x0_4 x0_5 xl0 x1_0 x1_1 x1_2 x1_3 x1_4 x1_5 y1_0 y1_1 y1_2 y1_3 y1_4 y1_5 xl1
    have BF : Blk (W3.alloc (.cells #[.bool false, .string ⟨a.toArray⟩, .string ⟨b.toArray⟩, .int .i64 n, .string ⟨#[]⟩, .string ⟨#[]⟩] 23)) (W3.heap.size) #[.bool false, .string ⟨a.toArray⟩, .string ⟨b.toArray⟩, .int .i64 n, .string ⟨#[]⟩, .string ⟨#[]⟩] 23 := by have h := Blk.new W3 #[.bool false, .string ⟨a.toArray⟩, .string ⟨b.toArray⟩, .int .i64 n, .string ⟨#[]⟩, .string ⟨#[]⟩] 23; exact h
    replace BA := BA.reach (Reach.alloc (Reach.refl _) (.cells #[.bool false, .string ⟨a.toArray⟩, .string ⟨b.toArray⟩, .int .i64 n, .string ⟨#[]⟩, .string ⟨#[]⟩] 23))
    replace BR := BR.reach (Reach.alloc (Reach.refl _) (.cells #[.bool false, .string ⟨a.toArray⟩, .string ⟨b.toArray⟩, .int .i64 n, .string ⟨#[]⟩, .string ⟨#[]⟩] 23))
    replace Q := Reach.alloc Q (.cells #[.bool false, .string ⟨a.toArray⟩, .string ⟨b.toArray⟩, .int .i64 n, .string ⟨#[]⟩, .string ⟨#[]⟩] 23)
    generalize W3.alloc (.cells #[.bool false, .string ⟨a.toArray⟩, .string ⟨b.toArray⟩, .int .i64 n, .string ⟨#[]⟩, .string ⟨#[]⟩] 23) = X3 at BA BR BF Q ⊢
    generalize W3.heap.size = nBF at *
    obtain ⟨x0_0, x0_1, x0_2, x0_3, x0_4, x0_5⟩ := BF.six
    have xl0 := BF.lt
    go_wp2_with fail
    clear x0_0 x0_1 x0_2 x0_3 x0_4 x0_5 xl0
    (with_reducible refine Calls.mono (HF.out _) ?_)
    rintro e W4 ⟨rfl, hr⟩
    replace BA := BA.reach hr
    replace BR := BR.reach hr
    replace Q := Reach.trans Q hr
    clear hr
    clear BF
    obtain ⟨x0_0, x0_1, x0_2, x0_3, x0_4, x0_5⟩ := BA.six
    have xl0 := BA.lt
    obtain ⟨⟨x1_0, x1_1, x1_2, x1_3, x1_4, x1_5⟩, y1_0, y1_1, y1_2, y1_3, y1_4, y1_5⟩ := BR.sixf
    have xl1 := BR.lt
    go_wp2_with fail
    clear x0_0 x0_1 x0_2 x0_3 x0_4 x0_5 xl0 x1_0 x1_1 x1_2 x1_3 x1_4 x1_5 y1_0 y1_1 y1_2 y1_3 y1_4 y1_5 xl1
    (with_reducible refine Calls.mono (HG.out _) ?_)
    rintro e W9 ⟨rfl, hr⟩
    replace BA := BA.reach hr
    replace BR := BR.reach hr
    replace Q := Reach.trans Q hr
    clear hr
    obtain ⟨x0_0, x0_1, x0_2, x0_3, x0_4, x0_5⟩ := BA.six
    have xl0 := BA.lt
    obtain ⟨⟨x1_0, x1_1, x1_2, x1_3, x1_4, x1_5⟩, y1_0, y1_1, y1_2, y1_3, y1_4, y1_5⟩ := BR.sixf
    have xl1 := BR.lt
    go_wp2_with fail
    clear x0_0 x0_1 x0_2 x0_3 x0_4 x0_5 xl0 x1_0 x1_1 x1_2 x1_3 x1_4 x1_5 y1_0 y1_1 y1_2 y1_3 y1_4 y1_5 xl1
    (with_reducible refine Calls.mono (HP.out _) ?_)
    rintro e W5 ⟨rfl, hr⟩
    replace BR := BR.reach hr
    replace Q := Reach.trans Q hr
    clear hr
    obtain ⟨⟨x0_0, x0_1, x0_2, x0_3, x0_4, x0_5⟩, y0_0, y0_1, y0_2, y0_3, y0_4, y0_5⟩ := BR.sixf
    have xl0 := BR.lt
    go_wp2_with fail
    clear x0_0 x0_1 x0_2 x0_3 x0_4 x0_5 y0_0 y0_1 y0_2 y0_3 y0_4 y0_5 xl0
    have BR1 := ((((((BR.put 0 (.bool u0)).put 1 (.string ⟨u1.toArray⟩)).put 2 (.string ⟨u2.toArray⟩)).put 3 (.int .i64 u3)).put 4 (.string ⟨u4.toArray⟩)).put 5 (.string ⟨u5.toArray⟩))
    obtain ⟨r0, r1, r2, r3, r4, r5⟩ := BR1.six
    refine bodyPost_ret (v := .tuple #[.agg #[.bool u0, .string ⟨u1.toArray⟩, .string ⟨u2.toArray⟩, .int .i64 u3, .string ⟨u4.toArray⟩, .string ⟨u5.toArray⟩], .int .i64 je]) (by simp [results, Tryz.results13, go_sem, r0, r1, r2, r3, r4, r5]) rfl ⟨rfl, ?_⟩
    exact Reach.setCell (Reach.setCell (Reach.setCell (Reach.setCell (Reach.setCell (Reach.setCell Q (by simp) _) (by simp) _) (by simp) _) (by simp) _) (by simp) _) (by simp) _
  · rw [k] at hk hju hje
    simp at hju hje
    have hp := fun W => rparse_calls (F ++ (c ++ r)) W (by simp; omega)
    rw [← hju, ← hje] at hp
    have HK := Lib.hid hk
    have HP := Lib.hid hp
    clear hk hp hju hje k
    obtain ⟨u0, u1, u2, u3, u4, u5⟩ := ju
    unfold urlV
    go_enter Tryz.func13, Tryz.ntmps13
    go_wp2_with fail
    have BA : Blk (w.alloc (.cells #[.bool false, .string ⟨a.toArray⟩, .string ⟨b.toArray⟩, .int .i64 n, .string ⟨c.toArray⟩, .string ⟨d.toArray⟩] 23)) (w.heap.size) #[.bool false, .string ⟨a.toArray⟩, .string ⟨b.toArray⟩, .int .i64 n, .string ⟨c.toArray⟩, .string ⟨d.toArray⟩] 23 := by have h := Blk.new w #[.bool false, .string ⟨a.toArray⟩, .string ⟨b.toArray⟩, .int .i64 n, .string ⟨c.toArray⟩, .string ⟨d.toArray⟩] 23; exact h
    have BR : Blk ((w.alloc (.cells #[.bool false, .string ⟨a.toArray⟩, .string ⟨b.toArray⟩, .int .i64 n, .string ⟨c.toArray⟩, .string ⟨d.toArray⟩] 23)).alloc (.cells #[.bool false, .string ⟨#[]⟩, .string ⟨#[]⟩, .int .i64 0, .string ⟨#[]⟩, .string ⟨#[]⟩] 23)) (w.heap.size + 1) #[.bool false, .string ⟨#[]⟩, .string ⟨#[]⟩, .int .i64 0, .string ⟨#[]⟩, .string ⟨#[]⟩] 23 := by have h := Blk.new (w.alloc (.cells #[.bool false, .string ⟨a.toArray⟩, .string ⟨b.toArray⟩, .int .i64 n, .string ⟨c.toArray⟩, .string ⟨d.toArray⟩] 23)) #[.bool false, .string ⟨#[]⟩, .string ⟨#[]⟩, .int .i64 0, .string ⟨#[]⟩, .string ⟨#[]⟩] 23; rw [World.size_alloc] at h; exact h
    replace BA := BA.reach (Reach.alloc (Reach.refl _) (.cells #[.bool false, .string ⟨#[]⟩, .string ⟨#[]⟩, .int .i64 0, .string ⟨#[]⟩, .string ⟨#[]⟩] 23))
    have Q : Reach w _ := Reach.alloc (Reach.alloc (Reach.refl w) (.cells #[.bool false, .string ⟨a.toArray⟩, .string ⟨b.toArray⟩, .int .i64 n, .string ⟨c.toArray⟩, .string ⟨d.toArray⟩] 23)) (.cells #[.bool false, .string ⟨#[]⟩, .string ⟨#[]⟩, .int .i64 0, .string ⟨#[]⟩, .string ⟨#[]⟩] 23)
    generalize (w.alloc (.cells #[.bool false, .string ⟨a.toArray⟩, .string ⟨b.toArray⟩, .int .i64 n, .string ⟨c.toArray⟩, .string ⟨d.toArray⟩] 23)).alloc (.cells #[.bool false, .string ⟨#[]⟩, .string ⟨#[]⟩, .int .i64 0, .string ⟨#[]⟩, .string ⟨#[]⟩] 23) = W0 at BA BR Q ⊢
    (with_reducible refine Calls.mono (HK.out _) ?_)
    rintro e W1 ⟨rfl, hr⟩
    replace BA := BA.reach hr
    replace BR := BR.reach hr
    replace Q := Reach.trans Q hr
    clear hr
    obtain ⟨x0_0, x0_1, x0_2, x0_3, x0_4, x0_5⟩ := BA.six
    have xl0 := BA.lt
    obtain ⟨⟨x1_0, x1_1, x1_2, x1_3, x1_4, x1_5⟩, y1_0, y1_1, y1_2, y1_3, y1_4, y1_5⟩ := BR.sixf
    have xl1 := BR.lt
    go_wp2_with fail
    clear x0_0 x0_1 x0_2 x0_3 x0_4 x0_5 xl0 x1_0 x1_1 x1_2 x1_3 x1_4 x1_5 y1_0 y1_1 y1_2 y1_3 y1_4 y1_5 xl1
    (with_reducible refine Calls.mono (HX.out _) ?_)
    rintro e W2 ⟨rfl, hr⟩
    replace BA := BA.reach hr
    replace BR := BR.reach hr
    replace Q := Reach.trans Q hr
    clear hr
    obtain ⟨x0_0, x0_1, x0_2, x0_3, x0_4, x0_5⟩ := BA.six
    have xl0 := BA.lt
    obtain ⟨⟨x1_0, x1_1, x1_2, x1_3, x1_4, x1_5⟩, y1_0, y1_1, y1_2, y1_3, y1_4, y1_5⟩ := BR.sixf
    have xl1 := BR.lt
    go_wp2_with (first | (go_at_call 41; (with_reducible refine Calls.mono (HT.out _) ?_); rintro e w' ⟨rfl, rfl⟩))
    clear x0_0 x0_1 x0_2 x0_3 x0_4 x0_5 xl0 x1_0 x1_1 x1_2 x1_3 x1_4 x1_5 y1_0 y1_1 y1_2 y1_3 y1_4 y1_5 xl1
    (with_reducible refine Calls.mono (HC.out _) ?_)
    rintro e W3 ⟨rfl, hr⟩
    replace BA := BA.reach hr
    replace BR := BR.reach hr
    replace Q := Reach.trans Q hr
    clear hr
    obtain ⟨x0_0, x0_1, x0_2, x0_3, x0_4, x0_5⟩ := BA.six
    have xl0 := BA.lt
    obtain ⟨⟨x1_0, x1_1, x1_2, x1_3, x1_4, x1_5⟩, y1_0, y1_1, y1_2, y1_3, y1_4, y1_5⟩ := BR.sixf
    have xl1 := BR.lt
    go_wp2_with fail
    clear x0_0 x0_1 x0_2 x0_3 x0_4 x0_5 xl0 x1_0 x1_1 x1_2 x1_3 x1_4 x1_5 y1_0 y1_1 y1_2 y1_3 y1_4 y1_5 xl1
    have BF : Blk (W3.alloc (.cells #[.bool false, .string ⟨a.toArray⟩, .string ⟨b.toArray⟩, .int .i64 n, .string ⟨#[]⟩, .string ⟨#[]⟩] 23)) (W3.heap.size) #[.bool false, .string ⟨a.toArray⟩, .string ⟨b.toArray⟩, .int .i64 n, .string ⟨#[]⟩, .string ⟨#[]⟩] 23 := by have h := Blk.new W3 #[.bool false, .string ⟨a.toArray⟩, .string ⟨b.toArray⟩, .int .i64 n, .string ⟨#[]⟩, .string ⟨#[]⟩] 23; exact h
    replace BA := BA.reach (Reach.alloc (Reach.refl _) (.cells #[.bool false, .string ⟨a.toArray⟩, .string ⟨b.toArray⟩, .int .i64 n, .string ⟨#[]⟩, .string ⟨#[]⟩] 23))
    replace BR := BR.reach (Reach.alloc (Reach.refl _) (.cells #[.bool false, .string ⟨a.toArray⟩, .string ⟨b.toArray⟩, .int .i64 n, .string ⟨#[]⟩, .string ⟨#[]⟩] 23))
    replace Q := Reach.alloc Q (.cells #[.bool false, .string ⟨a.toArray⟩, .string ⟨b.toArray⟩, .int .i64 n, .string ⟨#[]⟩, .string ⟨#[]⟩] 23)
    generalize W3.alloc (.cells #[.bool false, .string ⟨a.toArray⟩, .string ⟨b.toArray⟩, .int .i64 n, .string ⟨#[]⟩, .string ⟨#[]⟩] 23) = X3 at BA BR BF Q ⊢
    generalize W3.heap.size = nBF at *
    obtain ⟨x0_0, x0_1, x0_2, x0_3, x0_4, x0_5⟩ := BF.six
    have xl0 := BF.lt
    go_wp2_with fail
    clear x0_0 x0_1 x0_2 x0_3 x0_4 x0_5 xl0
    (with_reducible refine Calls.mono (HF.out _) ?_)
    rintro e W4 ⟨rfl, hr⟩
    replace BA := BA.reach hr
    replace BR := BR.reach hr
    replace Q := Reach.trans Q hr
    clear hr
    clear BF
    obtain ⟨x0_0, x0_1, x0_2, x0_3, x0_4, x0_5⟩ := BA.six
    have xl0 := BA.lt
    obtain ⟨⟨x1_0, x1_1, x1_2, x1_3, x1_4, x1_5⟩, y1_0, y1_1, y1_2, y1_3, y1_4, y1_5⟩ := BR.sixf
    have xl1 := BR.lt
    go_wp2_with fail
    clear x0_0 x0_1 x0_2 x0_3 x0_4 x0_5 xl0 x1_0 x1_1 x1_2 x1_3 x1_4 x1_5 y1_0 y1_1 y1_2 y1_3 y1_4 y1_5 xl1
    (with_reducible refine Calls.mono (HP.out _) ?_)
    rintro e W5 ⟨rfl, hr⟩
    replace BR := BR.reach hr
    replace Q := Reach.trans Q hr
    clear hr
    obtain ⟨⟨x0_0, x0_1, x0_2, x0_3, x0_4, x0_5⟩, y0_0, y0_1, y0_2, y0_3, y0_4, y0_5⟩ := BR.sixf
    have xl0 := BR.lt
    go_wp2_with fail
    clear x0_0 x0_1 x0_2 x0_3 x0_4 x0_5 y0_0 y0_1 y0_2 y0_3 y0_4 y0_5 xl0
    have BR1 := ((((((BR.put 0 (.bool u0)).put 1 (.string ⟨u1.toArray⟩)).put 2 (.string ⟨u2.toArray⟩)).put 3 (.int .i64 u3)).put 4 (.string ⟨u4.toArray⟩)).put 5 (.string ⟨u5.toArray⟩))
    obtain ⟨r0, r1, r2, r3, r4, r5⟩ := BR1.six
    refine bodyPost_ret (v := .tuple #[.agg #[.bool u0, .string ⟨u1.toArray⟩, .string ⟨u2.toArray⟩, .int .i64 u3, .string ⟨u4.toArray⟩, .string ⟨u5.toArray⟩], .int .i64 je]) (by simp [results, Tryz.results13, go_sem, r0, r1, r2, r3, r4, r5]) rfl ⟨rfl, ?_⟩
    exact Reach.setCell (Reach.setCell (Reach.setCell (Reach.setCell (Reach.setCell (Reach.setCell Q (by simp) _) (by simp) _) (by simp) _) (by simp) _) (by simp) _) (by simp) _
  · rw [k] at hk hju hje
    simp at hju hje
    have hp := fun W => rparse_calls (F ++ (fo ++ r)) W (by simp; omega)
    rw [← hju, ← hje] at hp
    have HK := Lib.hid hk
    have HP := Lib.hid hp
    clear hk hp hju hje k
    obtain ⟨u0, u1, u2, u3, u4, u5⟩ := ju
    unfold urlV
    go_enter Tryz.func13, Tryz.ntmps13
    go_wp2_with fail
    have BA : Blk (w.alloc (.cells #[.bool false, .string ⟨a.toArray⟩, .string ⟨b.toArray⟩, .int .i64 n, .string ⟨c.toArray⟩, .string ⟨d.toArray⟩] 23)) (w.heap.size) #[.bool false, .string ⟨a.toArray⟩, .string ⟨b.toArray⟩, .int .i64 n, .string ⟨c.toArray⟩, .string ⟨d.toArray⟩] 23 := by have h := Blk.new w #[.bool false, .string ⟨a.toArray⟩, .string ⟨b.toArray⟩, .int .i64 n, .string ⟨c.toArray⟩, .string ⟨d.toArray⟩] 23; exact h
    have BR : Blk ((w.alloc (.cells #[.bool false, .string ⟨a.toArray⟩, .string ⟨b.toArray⟩, .int .i64 n, .string ⟨c.toArray⟩, .string ⟨d.toArray⟩] 23)).alloc (.cells #[.bool false, .string ⟨#[]⟩, .string ⟨#[]⟩, .int .i64 0, .string ⟨#[]⟩, .string ⟨#[]⟩] 23)) (w.heap.size + 1) #[.bool false, .string ⟨#[]⟩, .string ⟨#[]⟩, .int .i64 0, .string ⟨#[]⟩, .string ⟨#[]⟩] 23 := by have h := Blk.new (w.alloc (.cells #[.bool false, .string ⟨a.toArray⟩, .string ⟨b.toArray⟩, .int .i64 n, .string ⟨c.toArray⟩, .string ⟨d.toArray⟩] 23)) #[.bool false, .string ⟨#[]⟩, .string ⟨#[]⟩, .int .i64 0, .string ⟨#[]⟩, .string ⟨#[]⟩] 23; rw [World.size_alloc] at h; exact h
    replace BA := BA.reach (Reach.alloc (Reach.refl _) (.cells #[.bool false, .string ⟨#[]⟩, .string ⟨#[]⟩, .int .i64 0, .string ⟨#[]⟩, .string ⟨#[]⟩] 23))
    have Q : Reach w _ := Reach.alloc (Reach.alloc (Reach.refl w) (.cells #[.bool false, .string ⟨a.toArray⟩, .string ⟨b.toArray⟩, .int .i64 n, .string ⟨c.toArray⟩, .string ⟨d.toArray⟩] 23)) (.cells #[.bool false, .string ⟨#[]⟩, .string ⟨#[]⟩, .int .i64 0, .string ⟨#[]⟩, .string ⟨#[]⟩] 23)
    generalize (w.alloc (.cells #[.bool false, .string ⟨a.toArray⟩, .string ⟨b.toArray⟩, .int .i64 n, .string ⟨c.toArray⟩, .string ⟨d.toArray⟩] 23)).alloc (.cells #[.bool false, .string ⟨#[]⟩, .string ⟨#[]⟩, .int .i64 0, .string ⟨#[]⟩, .string ⟨#[]⟩] 23) = W0 at BA BR Q ⊢
    (with_reducible refine Calls.mono (HK.out _) ?_)
    rintro e W1 ⟨rfl, hr⟩
    replace BA := BA.reach hr
    replace BR := BR.reach hr
    replace Q := Reach.trans Q hr
    clear hr
    obtain ⟨x0_0, x0_1, x0_2, x0_3, x0_4, x0_5⟩ := BA.six
    have xl0 := BA.lt
    obtain ⟨⟨x1_0, x1_1, x1_2, x1_3, x1_4, x1_5⟩, y1_0, y1_1, y1_2, y1_3, y1_4, y1_5⟩ := BR.sixf
    have xl1 := BR.lt
    go_wp2_with fail
    clear x0_0 x0_1 x0_2 x0_3 x0_4 x0_5 xl0 x1_0 x1_1 x1_2 x1_3 x1_4 x1_5 y1_0 y1_1 y1_2 y1_3 y1_4 y1_5 xl1
    (with_reducible refine Calls.mono (HX.out _) ?_)
    rintro e W2 ⟨rfl, hr⟩
    replace BA := BA.reach hr
    replace BR := BR.reach hr
    replace Q := Reach.trans Q hr
    clear hr
    obtain ⟨x0_0, x0_1, x0_2, x0_3, x0_4, x0_5⟩ := BA.six
    have xl0 := BA.lt
    obtain ⟨⟨x1_0, x1_1, x1_2, x1_3, x1_4, x1_5⟩, y1_0, y1_1, y1_2, y1_3, y1_4, y1_5⟩ := BR.sixf
    have xl1 := BR.lt
    go_wp2_with (first | (go_at_call 41; (with_reducible refine Calls.mono (HT.out _) ?_); rintro e w' ⟨rfl, rfl⟩))
    clear x0_0 x0_1 x0_2 x0_3 x0_4 x0_5 xl0 x1_0 x1_1 x1_2 x1_3 x1_4 x1_5 y1_0 y1_1 y1_2 y1_3 y1_4 y1_5 xl1
    (with_reducible refine Calls.mono (HC.out _) ?_)
    rintro e W3 ⟨rfl, hr⟩
    replace BA := BA.reach hr
    replace BR := BR.reach hr
    replace Q := Reach.trans Q hr
    clear hr
    obtain ⟨x0_0, x0_1, x0_2, x0_3, x0_4, x0_5⟩ := BA.six
    have xl0 := BA.lt
    obtain ⟨⟨x1_0, x1_1, x1_2, x1_3, x1_4, x1_5⟩, y1_0, y1_1, y1_2, y1_3, y1_4, y1_5⟩ := BR.sixf
    have xl1 := BR.lt
    go_wp2_with fail
    clear x0_0 x0_1 x0_2 x0_3 x0_4 x0_5 xl0 x1_0 x1_1 x1_2 x1_3 x1_4 x1_5 y1_0 y1_1 y1_2 y1_3 y1_4 y1_5 xl1
    have BF : Blk (W3.alloc (.cells #[.bool false, .string ⟨a.toArray⟩, .string ⟨b.toArray⟩, .int .i64 n, .string ⟨#[]⟩, .string ⟨#[]⟩] 23)) (W3.heap.size) #[.bool false, .string ⟨a.toArray⟩, .string ⟨b.toArray⟩, .int .i64 n, .string ⟨#[]⟩, .string ⟨#[]⟩] 23 := by have h := Blk.new W3 #[.bool false, .string ⟨a.toArray⟩, .string ⟨b.toArray⟩, .int .i64 n, .string ⟨#[]⟩, .string ⟨#[]⟩] 23; exact h
    replace BA := BA.reach (Reach.alloc (Reach.refl _) (.cells #[.bool false, .string ⟨a.toArray⟩, .string ⟨b.toArray⟩, .int .i64 n, .string ⟨#[]⟩, .string ⟨#[]⟩] 23))
    replace BR := BR.reach (Reach.alloc (Reach.refl _) (.cells #[.bool false, .string ⟨a.toArray⟩, .string ⟨b.toArray⟩, .int .i64 n, .string ⟨#[]⟩, .string ⟨#[]⟩] 23))
    replace Q := Reach.alloc Q (.cells #[.bool false, .string ⟨a.toArray⟩, .string ⟨b.toArray⟩, .int .i64 n, .string ⟨#[]⟩, .string ⟨#[]⟩] 23)
    generalize W3.alloc (.cells #[.bool false, .string ⟨a.toArray⟩, .string ⟨b.toArray⟩, .int .i64 n, .string ⟨#[]⟩, .string ⟨#[]⟩] 23) = X3 at BA BR BF Q ⊢
    generalize W3.heap.size = nBF at *
    obtain ⟨x0_0, x0_1, x0_2, x0_3, x0_4, x0_5⟩ := BF.six
    have xl0 := BF.lt
    go_wp2_with fail
    clear x0_0 x0_1 x0_2 x0_3 x0_4 x0_5 xl0
    (with_reducible refine Calls.mono (HF.out _) ?_)
    rintro e W4 ⟨rfl, hr⟩
    replace BA := BA.reach hr
    replace BR := BR.reach hr
    replace Q := Reach.trans Q hr
    clear hr
    clear BF
    obtain ⟨x0_0, x0_1, x0_2, x0_3, x0_4, x0_5⟩ := BA.six
    have xl0 := BA.lt
    obtain ⟨⟨x1_0, x1_1, x1_2, x1_3, x1_4, x1_5⟩, y1_0, y1_1, y1_2, y1_3, y1_4, y1_5⟩ := BR.sixf
    have xl1 := BR.lt
    go_wp2_with (first | (go_at_call 43; (with_reducible refine Calls.mono (HL.out _) ?_); rintro e w' ⟨rfl, rfl⟩))
    clear x0_0 x0_1 x0_2 x0_3 x0_4 x0_5 xl0 x1_0 x1_1 x1_2 x1_3 x1_4 x1_5 y1_0 y1_1 y1_2 y1_3 y1_4 y1_5 xl1
    (with_reducible refine Calls.mono (HP.out _) ?_)
    rintro e W5 ⟨rfl, hr⟩
    replace BR := BR.reach hr
    replace Q := Reach.trans Q hr
    clear hr
    obtain ⟨⟨x0_0, x0_1, x0_2, x0_3, x0_4, x0_5⟩, y0_0, y0_1, y0_2, y0_3, y0_4, y0_5⟩ := BR.sixf
    have xl0 := BR.lt
    go_wp2_with fail
    clear x0_0 x0_1 x0_2 x0_3 x0_4 x0_5 y0_0 y0_1 y0_2 y0_3 y0_4 y0_5 xl0
    have BR1 := ((((((BR.put 0 (.bool u0)).put 1 (.string ⟨u1.toArray⟩)).put 2 (.string ⟨u2.toArray⟩)).put 3 (.int .i64 u3)).put 4 (.string ⟨u4.toArray⟩)).put 5 (.string ⟨u5.toArray⟩))
    obtain ⟨r0, r1, r2, r3, r4, r5⟩ := BR1.six
    refine bodyPost_ret (v := .tuple #[.agg #[.bool u0, .string ⟨u1.toArray⟩, .string ⟨u2.toArray⟩, .int .i64 u3, .string ⟨u4.toArray⟩, .string ⟨u5.toArray⟩], .int .i64 je]) (by simp [results, Tryz.results13, go_sem, r0, r1, r2, r3, r4, r5]) rfl ⟨rfl, ?_⟩
    exact Reach.setCell (Reach.setCell (Reach.setCell (Reach.setCell (Reach.setCell (Reach.setCell Q (by simp) _) (by simp) _) (by simp) _) (by simp) _) (by simp) _) (by simp) _
end Go.Proofs.YtbeaheicjopooaaGreatDoor
