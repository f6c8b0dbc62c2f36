/- What the reference's Parse answers; texts of at most 50000 bytes. -/
import Derived.Test.YtbeaheicjopooaaGreatDoorProg
import Derived.Test.YtbeaheicjopooaaGreatDoorRParse2
namespace Go.Proofs.YtbeaheicjopooaaGreatDoor
open Go.RowKit Go.Sort
attribute [local go_sem] get_mk mk_append mk_extract0 mk_extract_end mk_extract_cons empty_mk cell_grow frozen_grow size_grow
theorem parse_by (s : List UInt8) : parseB s = (restL (frontL (trimL s) [35]) [58] != [] && checkB (rrawU s)) ∧ (checkB (rrawU s) = true → rawU s = rrawU s) := by
  unfold parseB
  rcases rraw_same s with h | ⟨h1, h2⟩
  · rw [h]; exact ⟨rfl, fun _ => rfl⟩
  · rw [h1, h2]; exact ⟨rfl, fun h => by cases h⟩
theorem rrankedL_bounds (sch rest : List UInt8) (h1 : sch.length ≤ 400000) (h2 : rest.length ≤ 400000) :
    (rrankedL sch rest).sch.length ≤ 1000000 ∧ (rrankedL sch rest).host.length ≤ 1000000 ∧ (rrankedL sch rest).path.length ≤ 1000000 ∧ (rrankedL sch rest).query.length ≤ 1000000 ∧ -1 ≤ (rrankedL sch rest).port ∧ (rrankedL sch rest).port ≤ 100000 := by
  have hq : ∀ l : List UInt8, -1 ≤ rportL l ∧ rportL l ≤ 65535 := by
    intro l
    unfold rportL
    split
    · omega
    · rename_i h
      have : ¬ 65535 < digitsL l := fun e => h (.inr (.inr (.inr e)))
      omega
  unfold rrankedL
  split
  · have a1 := frontL_length (rest.drop 2) [47, 63]
    have a2 := restL_length (rest.drop 2) [47, 63]
    rw [List.length_drop] at a1 a2
    have a3 := frontL_length (frontL (rest.drop 2) [47, 63]) [58]
    have a4 := frontL_length (restL (rest.drop 2) [47, 63]) [63]
    have a5 := restL_length (restL (rest.drop 2) [47, 63]) [63]
    have a6 := hq ((restL (frontL (rest.drop 2) [47, 63]) [58]).drop 1)
    have a7 : ∀ (c e : Prop) [Decidable c] [Decidable e] (p : Int), -1 ≤ p ∧ p ≤ 65535 → -1 ≤ (if e then (0 : Int) else if c then 0 else p) ∧ (if e then (0 : Int) else if c then 0 else p) ≤ 100000 := by
      intro c e _ _ p hp
      repeat' split
      all_goals omega
    refine ⟨by show sch.length ≤ _; omega, by show (lowerL _).length ≤ _; rw [lowerL_length]; omega, ?_, by show (restL (restL (rest.drop 2) [47, 63]) [63]).length ≤ _; omega, (a7 _ _ _ a6).1, (a7 _ _ _ a6).2⟩
    show (cleanL _).length ≤ _
    refine Nat.le_trans (cleanL_length2 _) ?_
    split
    · simp
    · omega
  · exact ⟨by show sch.length ≤ _; omega, by simp, by simp, by simp, by simp, by simp⟩
set_option maxRecDepth 100000 in
set_option maxHeartbeats 4000000 in
theorem rparse_calls (s : List UInt8) (w : World) (hs : s.length ≤ 50000) :
    Calls Tryz.prog 38 #[.string ⟨s.toArray⟩] w fun e w' =>
      e = .returned (.tuple #[.agg #[.bool (parseU s).opq, .string ⟨(parseU s).sch.toArray⟩, .string ⟨(parseU s).host.toArray⟩, .int .i64 (parseU s).port, .string ⟨(parseU s).path.toArray⟩, .string ⟨(parseU s).query.toArray⟩], .int .i64 (parseE s)]) ∧ Reach w w' := by
  obtain ⟨hpb, hraw⟩ := parse_by s
  have hpu : parseU s = if parseB s then rawU s else zeroU := rfl
  have hpe : parseE s = if parseB s then 0 else 50 := rfl
  have hru : rrawU s = if defPort (lowerL (frontL (frontL (trimL s) [35]) [58])) = 0 then
    ⟨true, lowerL (frontL (frontL (trimL s) [35]) [58]), [], 0, trimL ((restL (frontL (trimL s) [35]) [58]).drop 1), []⟩
    else rrankedL (lowerL (frontL (frontL (trimL s) [35]) [58])) ((restL (frontL (trimL s) [35]) [58]).drop 1) := rfl
  generalize parseU s = pu at *
  generalize parseE s = pe at *
  generalize parseB s = pb at *
  generalize rawU s = ra at *
  generalize rrawU s = rr at *
  have l1 := trimL_length s
  have l2 := frontL_length (trimL s) [35]
  have l3 := frontL_length (frontL (trimL s) [35]) [58]
  have l4 := restL_length (frontL (trimL s) [35]) [58]
  have c0 := fun W => rtrim_calls s W (by omega)
  have c1 := fun W => rcut_calls (trimL s) [35] W (by omega) (by simp)
  have c2 := fun W => rcut_calls (frontL (trimL s) [35]) [58] W (by omega) (by simp)
  have c3 := fun W => rlower_calls (frontL (frontL (trimL s) [35]) [58]) W (by omega)
  generalize trimL s = ts at *
  generalize restL ts [35] = junk at *
  generalize frontL ts [35] = f at *
  generalize frontL f [58] = fr at *
  generalize restL f [58] = be at *
  have l5 := lowerL_length fr
  generalize lowerL fr = sc at *
  have HTT := Lib.hid c0
  have H1 := Lib.hid c1
  have H2 := Lib.hid c2
  have H3 := Lib.hid c3
  clear c0 c1 c2 c3
  cases be with
  | nil =>
    have hb0 : pb = false := by rw [hpb]; rfl
    subst hb0
    simp only [Bool.false_eq_true, if_false] at hpu hpe
    subst hpu hpe
    clear hpb hraw hru
    unfold zeroU
    go_enter Tryz.func38, Tryz.ntmps38
    go_wp2_with (first | (go_at_call 41; (with_reducible refine Calls.mono (HTT.out _) ?_); rintro e w' ⟨rfl, rfl⟩))
    have BR : Blk (w.alloc (.cells #[.bool false, .string ⟨#[]⟩, .string ⟨#[]⟩, .int .i64 0, .string ⟨#[]⟩, .string ⟨#[]⟩] 23)) (w.heap.size) #[.bool false, .string ⟨#[]⟩, .string ⟨#[]⟩, .int .i64 0, .string ⟨#[]⟩, .string ⟨#[]⟩] 23 := by have h := Blk.new w #[.bool false, .string ⟨#[]⟩, .string ⟨#[]⟩, .int .i64 0, .string ⟨#[]⟩, .string ⟨#[]⟩] 23; exact h
    have Q : Reach w _ := Reach.alloc (Reach.refl w) (.cells #[.bool false, .string ⟨#[]⟩, .string ⟨#[]⟩, .int .i64 0, .string ⟨#[]⟩, .string ⟨#[]⟩] 23)
    generalize w.alloc (.cells #[.bool false, .string ⟨#[]⟩, .string ⟨#[]⟩, .int .i64 0, .string ⟨#[]⟩, .string ⟨#[]⟩] 23) = W0 at BR Q ⊢
    (with_reducible refine Calls.mono (H1.out _) ?_)
    rintro e W1 ⟨rfl, hr⟩
    replace BR := BR.reach hr
    replace Q := Reach.trans Q hr
    clear hr
    obtain ⟨⟨x0_0, x0_1, x0_2, x0_3, x0_4, x0_5⟩, y0_0, y0_1, y0_2, y0_3, y0_4, y0_5⟩ := BR.sixf
    have xl0 := BR.lt
    go_wp2_with fail
    clear x0_0 x0_1 x0_2 x0_3 x0_4 x0_5 y0_0 y0_1 y0_2 y0_3 y0_4 y0_5 xl0
    (with_reducible refine Calls.mono (H2.out _) ?_)
    rintro e W2 ⟨rfl, hr⟩
    replace BR := BR.reach hr
    replace Q := Reach.trans Q hr
    clear hr
    obtain ⟨⟨x0_0, x0_1, x0_2, x0_3, x0_4, x0_5⟩, y0_0, y0_1, y0_2, y0_3, y0_4, y0_5⟩ := BR.sixf
    have xl0 := BR.lt
    go_wp2_with fail
    clear x0_0 x0_1 x0_2 x0_3 x0_4 x0_5 y0_0 y0_1 y0_2 y0_3 y0_4 y0_5 xl0
    (with_reducible refine Calls.mono (H3.out _) ?_)
    rintro e W3 ⟨rfl, hr⟩
    replace BR := BR.reach hr
    replace Q := Reach.trans Q hr
    clear hr
    obtain ⟨⟨x0_0, x0_1, x0_2, x0_3, x0_4, x0_5⟩, y0_0, y0_1, y0_2, y0_3, y0_4, y0_5⟩ := BR.sixf
    have xl0 := BR.lt
    go_wp2_with fail
    clear x0_0 x0_1 x0_2 x0_3 x0_4 x0_5 y0_0 y0_1 y0_2 y0_3 y0_4 y0_5 xl0
    have BR1 := ((((((BR.put 0 (.bool false)).put 1 (.string ⟨#[]⟩)).put 2 (.string ⟨#[]⟩)).put 3 (.int .i64 0)).put 4 (.string ⟨#[]⟩)).put 5 (.string ⟨#[]⟩))
    obtain ⟨r0, r1, r2, r3, r4, r5⟩ := BR1.six
    refine bodyPost_ret (v := .tuple #[.agg #[.bool false, .string ⟨#[]⟩, .string ⟨#[]⟩, .int .i64 0, .string ⟨#[]⟩, .string ⟨#[]⟩], .int .i64 50]) (by simp [results, Tryz.results38, go_sem, r0, r1, r2, r3, r4, r5]) rfl ⟨rfl, ?_⟩
    exact Reach.setCell (Reach.setCell (Reach.setCell (Reach.setCell (Reach.setCell (Reach.setCell Q (by simp) _) (by simp) _) (by simp) _) (by simp) _) (by simp) _) (by simp) _
  | cons b r =>
    simp only [List.length_cons] at l4
    simp only [List.drop_succ_cons, List.drop_zero] at hru
    have hb1 : ((b :: r) != []) = true := by simp
    rw [hb1, Bool.true_and] at hpb
    clear hb1
    have c4 := fun W => rtrim_calls r W (by omega)
    have l6 := trimL_length r
    by_cases hd : defPort sc = 0
    · rw [if_pos hd] at hru
      have hdb : decide (0 < defPort sc) = false := by rw [hd]; rfl
      generalize trimL r = tr at *
      have c5 := fun W => rright_calls true sc [] 0 tr [] W (by decide) (by decide) (by omega) (by simp) (by omega) (by simp)
      rw [← hru, ← hpb] at c5
      have HT1 := Lib.hid c4
      have H5 := Lib.hid c5
      rw [← hpb] at hraw
      clear c4 c5
      cases pb
      · simp only [Bool.false_eq_true, if_false] at hpu hpe
        subst hpu hpe
        unfold zeroU
        clear hpb hraw hru hd
        go_enter Tryz.func38, Tryz.ntmps38
        go_wp2_with (first | (go_at_call 41; (with_reducible refine Calls.mono (HTT.out _) ?_); rintro e w' ⟨rfl, rfl⟩))
        have BR : Blk (w.alloc (.cells #[.bool false, .string ⟨#[]⟩, .string ⟨#[]⟩, .int .i64 0, .string ⟨#[]⟩, .string ⟨#[]⟩] 23)) (w.heap.size) #[.bool false, .string ⟨#[]⟩, .string ⟨#[]⟩, .int .i64 0, .string ⟨#[]⟩, .string ⟨#[]⟩] 23 := by have h := Blk.new w #[.bool false, .string ⟨#[]⟩, .string ⟨#[]⟩, .int .i64 0, .string ⟨#[]⟩, .string ⟨#[]⟩] 23; exact h
        have Q : Reach w _ := Reach.alloc (Reach.refl w) (.cells #[.bool false, .string ⟨#[]⟩, .string ⟨#[]⟩, .int .i64 0, .string ⟨#[]⟩, .string ⟨#[]⟩] 23)
        generalize w.alloc (.cells #[.bool false, .string ⟨#[]⟩, .string ⟨#[]⟩, .int .i64 0, .string ⟨#[]⟩, .string ⟨#[]⟩] 23) = W0 at BR Q ⊢
        (with_reducible refine Calls.mono (H1.out _) ?_)
        rintro e W1 ⟨rfl, hr⟩
        replace BR := BR.reach hr
        replace Q := Reach.trans Q hr
        clear hr
        obtain ⟨⟨x0_0, x0_1, x0_2, x0_3, x0_4, x0_5⟩, y0_0, y0_1, y0_2, y0_3, y0_4, y0_5⟩ := BR.sixf
        have xl0 := BR.lt
        go_wp2_with fail
        clear x0_0 x0_1 x0_2 x0_3 x0_4 x0_5 y0_0 y0_1 y0_2 y0_3 y0_4 y0_5 xl0
        (with_reducible refine Calls.mono (H2.out _) ?_)
        rintro e W2 ⟨rfl, hr⟩
        replace BR := BR.reach hr
        replace Q := Reach.trans Q hr
        clear hr
        obtain ⟨⟨x0_0, x0_1, x0_2, x0_3, x0_4, x0_5⟩, y0_0, y0_1, y0_2, y0_3, y0_4, y0_5⟩ := BR.sixf
        have xl0 := BR.lt
        go_wp2_with fail
        clear x0_0 x0_1 x0_2 x0_3 x0_4 x0_5 y0_0 y0_1 y0_2 y0_3 y0_4 y0_5 xl0
        (with_reducible refine Calls.mono (H3.out _) ?_)
        rintro e W3 ⟨rfl, hr⟩
        replace BR := BR.reach hr
        replace Q := Reach.trans Q hr
        clear hr
        obtain ⟨⟨x0_0, x0_1, x0_2, x0_3, x0_4, x0_5⟩, y0_0, y0_1, y0_2, y0_3, y0_4, y0_5⟩ := BR.sixf
        have xl0 := BR.lt
        go_wp2_with (first | (go_at_call 41; (with_reducible refine Calls.mono (HT1.out _) ?_); rintro e w' ⟨rfl, rfl⟩))
        clear x0_0 x0_1 x0_2 x0_3 x0_4 x0_5 y0_0 y0_1 y0_2 y0_3 y0_4 y0_5 xl0
        have BU : Blk (W3.alloc (.cells #[.bool true, .string ⟨sc.toArray⟩, .string ⟨#[]⟩, .int .i64 0, .string ⟨tr.toArray⟩, .string ⟨#[]⟩] 23)) (W3.heap.size) #[.bool true, .string ⟨sc.toArray⟩, .string ⟨#[]⟩, .int .i64 0, .string ⟨tr.toArray⟩, .string ⟨#[]⟩] 23 := by have h := Blk.new W3 #[.bool true, .string ⟨sc.toArray⟩, .string ⟨#[]⟩, .int .i64 0, .string ⟨tr.toArray⟩, .string ⟨#[]⟩] 23; exact h
        replace BR := BR.reach (Reach.alloc (Reach.refl _) (.cells #[.bool true, .string ⟨sc.toArray⟩, .string ⟨#[]⟩, .int .i64 0, .string ⟨tr.toArray⟩, .string ⟨#[]⟩] 23))
        replace Q := Reach.alloc Q (.cells #[.bool true, .string ⟨sc.toArray⟩, .string ⟨#[]⟩, .int .i64 0, .string ⟨tr.toArray⟩, .string ⟨#[]⟩] 23)
        generalize W3.alloc (.cells #[.bool true, .string ⟨sc.toArray⟩, .string ⟨#[]⟩, .int .i64 0, .string ⟨tr.toArray⟩, .string ⟨#[]⟩] 23) = X3 at BR BU Q ⊢
        generalize W3.heap.size = nBU at *
        obtain ⟨⟨x0_0, x0_1, x0_2, x0_3, x0_4, x0_5⟩, y0_0, y0_1, y0_2, y0_3, y0_4, y0_5⟩ := BR.sixf
        have xl0 := BR.lt
        obtain ⟨x1_0, x1_1, x1_2, x1_3, x1_4, x1_5⟩ := BU.six
        have xl1 := BU.lt
        go_wp2_with (first | (go_at_call 58; (with_reducible refine Calls.mono (rdefault_calls _ _) ?_); rintro e w' ⟨rfl, rfl⟩))
        clear x0_0 x0_1 x0_2 x0_3 x0_4 x0_5 y0_0 y0_1 y0_2 y0_3 y0_4 y0_5 xl0 x1_0 x1_1 x1_2 x1_3 x1_4 x1_5 xl1
        (with_reducible refine Calls.mono (H5.out _) ?_)
        rintro e W5 ⟨rfl, hr⟩
        replace BR := BR.reach hr
        replace BU := BU.reach hr
        replace Q := Reach.trans Q hr
        clear hr
        obtain ⟨⟨x0_0, x0_1, x0_2, x0_3, x0_4, x0_5⟩, y0_0, y0_1, y0_2, y0_3, y0_4, y0_5⟩ := BR.sixf
        have xl0 := BR.lt
        obtain ⟨x1_0, x1_1, x1_2, x1_3, x1_4, x1_5⟩ := BU.six
        have xl1 := BU.lt
        go_wp2_with fail
        clear x0_0 x0_1 x0_2 x0_3 x0_4 x0_5 y0_0 y0_1 y0_2 y0_3 y0_4 y0_5 xl0 x1_0 x1_1 x1_2 x1_3 x1_4 x1_5 xl1
        have BR1 := ((((((BR.put 0 (.bool false)).put 1 (.string ⟨#[]⟩)).put 2 (.string ⟨#[]⟩)).put 3 (.int .i64 0)).put 4 (.string ⟨#[]⟩)).put 5 (.string ⟨#[]⟩))
        obtain ⟨r0, r1, r2, r3, r4, r5⟩ := BR1.six
        refine bodyPost_ret (v := .tuple #[.agg #[.bool false, .string ⟨#[]⟩, .string ⟨#[]⟩, .int .i64 0, .string ⟨#[]⟩, .string ⟨#[]⟩], .int .i64 50]) (by simp [results, Tryz.results38, go_sem, r0, r1, r2, r3, r4, r5]) rfl ⟨rfl, ?_⟩
        exact Reach.setCell (Reach.setCell (Reach.setCell (Reach.setCell (Reach.setCell (Reach.setCell Q (by simp) _) (by simp) _) (by simp) _) (by simp) _) (by simp) _) (by simp) _
      · simp only [if_true] at hpu hpe
        rw [hraw rfl, hru] at hpu
        subst hpu hpe
        simp only
        clear hpb hraw hru hd
        go_enter Tryz.func38, Tryz.ntmps38
        go_wp2_with (first | (go_at_call 41; (with_reducible refine Calls.mono (HTT.out _) ?_); rintro e w' ⟨rfl, rfl⟩))
        have BR : Blk (w.alloc (.cells #[.bool false, .string ⟨#[]⟩, .string ⟨#[]⟩, .int .i64 0, .string ⟨#[]⟩, .string ⟨#[]⟩] 23)) (w.heap.size) #[.bool false, .string ⟨#[]⟩, .string ⟨#[]⟩, .int .i64 0, .string ⟨#[]⟩, .string ⟨#[]⟩] 23 := by have h := Blk.new w #[.bool false, .string ⟨#[]⟩, .string ⟨#[]⟩, .int .i64 0, .string ⟨#[]⟩, .string ⟨#[]⟩] 23; exact h
        have Q : Reach w _ := Reach.alloc (Reach.refl w) (.cells #[.bool false, .string ⟨#[]⟩, .string ⟨#[]⟩, .int .i64 0, .string ⟨#[]⟩, .string ⟨#[]⟩] 23)
        generalize w.alloc (.cells #[.bool false, .string ⟨#[]⟩, .string ⟨#[]⟩, .int .i64 0, .string ⟨#[]⟩, .string ⟨#[]⟩] 23) = W0 at BR Q ⊢
        (with_reducible refine Calls.mono (H1.out _) ?_)
        rintro e W1 ⟨rfl, hr⟩
        replace BR := BR.reach hr
        replace Q := Reach.trans Q hr
        clear hr
        obtain ⟨⟨x0_0, x0_1, x0_2, x0_3, x0_4, x0_5⟩, y0_0, y0_1, y0_2, y0_3, y0_4, y0_5⟩ := BR.sixf
        have xl0 := BR.lt
        go_wp2_with fail
        clear x0_0 x0_1 x0_2 x0_3 x0_4 x0_5 y0_0 y0_1 y0_2 y0_3 y0_4 y0_5 xl0
        (with_reducible refine Calls.mono (H2.out _) ?_)
        rintro e W2 ⟨rfl, hr⟩
        replace BR := BR.reach hr
        replace Q := Reach.trans Q hr
        clear hr
        obtain ⟨⟨x0_0, x0_1, x0_2, x0_3, x0_4, x0_5⟩, y0_0, y0_1, y0_2, y0_3, y0_4, y0_5⟩ := BR.sixf
        have xl0 := BR.lt
        go_wp2_with fail
        clear x0_0 x0_1 x0_2 x0_3 x0_4 x0_5 y0_0 y0_1 y0_2 y0_3 y0_4 y0_5 xl0
        (with_reducible refine Calls.mono (H3.out _) ?_)
        rintro e W3 ⟨rfl, hr⟩
        replace BR := BR.reach hr
        replace Q := Reach.trans Q hr
        clear hr
        obtain ⟨⟨x0_0, x0_1, x0_2, x0_3, x0_4, x0_5⟩, y0_0, y0_1, y0_2, y0_3, y0_4, y0_5⟩ := BR.sixf
        have xl0 := BR.lt
        go_wp2_with (first | (go_at_call 41; (with_reducible refine Calls.mono (HT1.out _) ?_); rintro e w' ⟨rfl, rfl⟩))
        clear x0_0 x0_1 x0_2 x0_3 x0_4 x0_5 y0_0 y0_1 y0_2 y0_3 y0_4 y0_5 xl0
        have BU : Blk (W3.alloc (.cells #[.bool true, .string ⟨sc.toArray⟩, .string ⟨#[]⟩, .int .i64 0, .string ⟨tr.toArray⟩, .string ⟨#[]⟩] 23)) (W3.heap.size) #[.bool true, .string ⟨sc.toArray⟩, .string ⟨#[]⟩, .int .i64 0, .string ⟨tr.toArray⟩, .string ⟨#[]⟩] 23 := by have h := Blk.new W3 #[.bool true, .string ⟨sc.toArray⟩, .string ⟨#[]⟩, .int .i64 0, .string ⟨tr.toArray⟩, .string ⟨#[]⟩] 23; exact h
        replace BR := BR.reach (Reach.alloc (Reach.refl _) (.cells #[.bool true, .string ⟨sc.toArray⟩, .string ⟨#[]⟩, .int .i64 0, .string ⟨tr.toArray⟩, .string ⟨#[]⟩] 23))
        replace Q := Reach.alloc Q (.cells #[.bool true, .string ⟨sc.toArray⟩, .string ⟨#[]⟩, .int .i64 0, .string ⟨tr.toArray⟩, .string ⟨#[]⟩] 23)
        generalize W3.alloc (.cells #[.bool true, .string ⟨sc.toArray⟩, .string ⟨#[]⟩, .int .i64 0, .string ⟨tr.toArray⟩, .string ⟨#[]⟩] 23) = X3 at BR BU Q ⊢
        generalize W3.heap.size = nBU at *
        obtain ⟨⟨x0_0, x0_1, x0_2, x0_3, x0_4, x0_5⟩, y0_0, y0_1, y0_2, y0_3, y0_4, y0_5⟩ := BR.sixf
        have xl0 := BR.lt
        obtain ⟨x1_0, x1_1, x1_2, x1_3, x1_4, x1_5⟩ := BU.six
        have xl1 := BU.lt
        go_wp2_with (first | (go_at_call 58; (with_reducible refine Calls.mono (rdefault_calls _ _) ?_); rintro e w' ⟨rfl, rfl⟩))
        clear x0_0 x0_1 x0_2 x0_3 x0_4 x0_5 y0_0 y0_1 y0_2 y0_3 y0_4 y0_5 xl0 x1_0 x1_1 x1_2 x1_3 x1_4 x1_5 xl1
        (with_reducible refine Calls.mono (H5.out _) ?_)
        rintro e W5 ⟨rfl, hr⟩
        replace BR := BR.reach hr
        replace BU := BU.reach hr
        replace Q := Reach.trans Q hr
        clear hr
        obtain ⟨⟨x0_0, x0_1, x0_2, x0_3, x0_4, x0_5⟩, y0_0, y0_1, y0_2, y0_3, y0_4, y0_5⟩ := BR.sixf
        have xl0 := BR.lt
        obtain ⟨x1_0, x1_1, x1_2, x1_3, x1_4, x1_5⟩ := BU.six
        have xl1 := BU.lt
        go_wp2_with fail
        clear x0_0 x0_1 x0_2 x0_3 x0_4 x0_5 y0_0 y0_1 y0_2 y0_3 y0_4 y0_5 xl0 x1_0 x1_1 x1_2 x1_3 x1_4 x1_5 xl1
        have BR1 := ((((((BR.put 0 (.bool true)).put 1 (.string ⟨sc.toArray⟩)).put 2 (.string ⟨#[]⟩)).put 3 (.int .i64 0)).put 4 (.string ⟨tr.toArray⟩)).put 5 (.string ⟨#[]⟩))
        obtain ⟨r0, r1, r2, r3, r4, r5⟩ := BR1.six
        refine bodyPost_ret (v := .tuple #[.agg #[.bool true, .string ⟨sc.toArray⟩, .string ⟨#[]⟩, .int .i64 0, .string ⟨tr.toArray⟩, .string ⟨#[]⟩], .int .i64 0]) (by simp [results, Tryz.results38, go_sem, r0, r1, r2, r3, r4, r5]) rfl ⟨rfl, ?_⟩
        exact Reach.setCell (Reach.setCell (Reach.setCell (Reach.setCell (Reach.setCell (Reach.setCell Q (by simp) _) (by simp) _) (by simp) _) (by simp) _) (by simp) _) (by simp) _
    · rw [if_neg hd] at hru
      have hdp := (defPort_bounds sc).1
      have hdb : decide (0 < defPort sc) = true := by rw [decide_eq_true_eq]; omega
      have hbd := rrankedL_bounds sc r (by omega) (by omega)
      have c6 := fun W => rranked_calls sc r W (by omega) (by omega)
      rw [← hru] at hbd c6
      generalize trimL r = tr at *
      clear hru
      obtain ⟨q0, q1, q2, q3, q4, q5⟩ := rr
      simp only at hbd
      obtain ⟨b1, b2, b3, b4, b5, b6⟩ := hbd
      have c5 := fun W => rright_calls q0 q1 q2 q3 q4 q5 W (by omega) (by omega) b1 b2 b3 b4
      rw [← hpb] at c5 hraw
      unfold urlA at c6
      have HT1 := Lib.hid c4
      have H5 := Lib.hid c5
      have H6 := Lib.hid c6
      clear c4 c5 c6
      cases pb
      · simp only [Bool.false_eq_true, if_false] at hpu hpe
        subst hpu hpe
        unfold zeroU
        clear hpb hraw hd b1 b2 b3 b4 b5 b6
        go_enter Tryz.func38, Tryz.ntmps38
        go_wp2_with (first | (go_at_call 41; (with_reducible refine Calls.mono (HTT.out _) ?_); rintro e w' ⟨rfl, rfl⟩))
        have BR : Blk (w.alloc (.cells #[.bool false, .string ⟨#[]⟩, .string ⟨#[]⟩, .int .i64 0, .string ⟨#[]⟩, .string ⟨#[]⟩] 23)) (w.heap.size) #[.bool false, .string ⟨#[]⟩, .string ⟨#[]⟩, .int .i64 0, .string ⟨#[]⟩, .string ⟨#[]⟩] 23 := by have h := Blk.new w #[.bool false, .string ⟨#[]⟩, .string ⟨#[]⟩, .int .i64 0, .string ⟨#[]⟩, .string ⟨#[]⟩] 23; exact h
        have Q : Reach w _ := Reach.alloc (Reach.refl w) (.cells #[.bool false, .string ⟨#[]⟩, .string ⟨#[]⟩, .int .i64 0, .string ⟨#[]⟩, .string ⟨#[]⟩] 23)
        generalize w.alloc (.cells #[.bool false, .string ⟨#[]⟩, .string ⟨#[]⟩, .int .i64 0, .string ⟨#[]⟩, .string ⟨#[]⟩] 23) = W0 at BR Q ⊢
        (with_reducible refine Calls.mono (H1.out _) ?_)
        rintro e W1 ⟨rfl, hr⟩
        replace BR := BR.reach hr
        replace Q := Reach.trans Q hr
        clear hr
        obtain ⟨⟨x0_0, x0_1, x0_2, x0_3, x0_4, x0_5⟩, y0_0, y0_1, y0_2, y0_3, y0_4, y0_5⟩ := BR.sixf
        have xl0 := BR.lt
        go_wp2_with fail
        clear x0_0 x0_1 x0_2 x0_3 x0_4 x0_5 y0_0 y0_1 y0_2 y0_3 y0_4 y0_5 xl0
        (with_reducible refine Calls.mono (H2.out _) ?_)
        rintro e W2 ⟨rfl, hr⟩
        replace BR := BR.reach hr
        replace Q := Reach.trans Q hr
        clear hr
        obtain ⟨⟨x0_0, x0_1, x0_2, x0_3, x0_4, x0_5⟩, y0_0, y0_1, y0_2, y0_3, y0_4, y0_5⟩ := BR.sixf
        have xl0 := BR.lt
        go_wp2_with fail
        clear x0_0 x0_1 x0_2 x0_3 x0_4 x0_5 y0_0 y0_1 y0_2 y0_3 y0_4 y0_5 xl0
        (with_reducible refine Calls.mono (H3.out _) ?_)
        rintro e W3 ⟨rfl, hr⟩
        replace BR := BR.reach hr
        replace Q := Reach.trans Q hr
        clear hr
        obtain ⟨⟨x0_0, x0_1, x0_2, x0_3, x0_4, x0_5⟩, y0_0, y0_1, y0_2, y0_3, y0_4, y0_5⟩ := BR.sixf
        have xl0 := BR.lt
        go_wp2_with (first | (go_at_call 41; (with_reducible refine Calls.mono (HT1.out _) ?_); rintro e w' ⟨rfl, rfl⟩))
        clear x0_0 x0_1 x0_2 x0_3 x0_4 x0_5 y0_0 y0_1 y0_2 y0_3 y0_4 y0_5 xl0
        have hnn := BR.lt
        have BU : Blk (W3.alloc (.cells #[.bool true, .string ⟨sc.toArray⟩, .string ⟨#[]⟩, .int .i64 0, .string ⟨tr.toArray⟩, .string ⟨#[]⟩] 23)) (W3.heap.size) #[.bool true, .string ⟨sc.toArray⟩, .string ⟨#[]⟩, .int .i64 0, .string ⟨tr.toArray⟩, .string ⟨#[]⟩] 23 := by have h := Blk.new W3 #[.bool true, .string ⟨sc.toArray⟩, .string ⟨#[]⟩, .int .i64 0, .string ⟨tr.toArray⟩, .string ⟨#[]⟩] 23; exact h
        replace BR := BR.reach (Reach.alloc (Reach.refl _) (.cells #[.bool true, .string ⟨sc.toArray⟩, .string ⟨#[]⟩, .int .i64 0, .string ⟨tr.toArray⟩, .string ⟨#[]⟩] 23))
        replace Q := Reach.alloc Q (.cells #[.bool true, .string ⟨sc.toArray⟩, .string ⟨#[]⟩, .int .i64 0, .string ⟨tr.toArray⟩, .string ⟨#[]⟩] 23)
        generalize W3.alloc (.cells #[.bool true, .string ⟨sc.toArray⟩, .string ⟨#[]⟩, .int .i64 0, .string ⟨tr.toArray⟩, .string ⟨#[]⟩] 23) = X3 at BR BU Q ⊢
        generalize W3.heap.size = nBU at *
        obtain ⟨⟨x0_0, x0_1, x0_2, x0_3, x0_4, x0_5⟩, y0_0, y0_1, y0_2, y0_3, y0_4, y0_5⟩ := BR.sixf
        have xl0 := BR.lt
        obtain ⟨⟨x1_0, x1_1, x1_2, x1_3, x1_4, x1_5⟩, y1_0, y1_1, y1_2, y1_3, y1_4, y1_5⟩ := BU.sixf
        have xl1 := BU.lt
        go_wp2_with (first | (go_at_call 58; (with_reducible refine Calls.mono (rdefault_calls _ _) ?_); rintro e w' ⟨rfl, rfl⟩))
        clear x0_0 x0_1 x0_2 x0_3 x0_4 x0_5 y0_0 y0_1 y0_2 y0_3 y0_4 y0_5 xl0 x1_0 x1_1 x1_2 x1_3 x1_4 x1_5 y1_0 y1_1 y1_2 y1_3 y1_4 y1_5 xl1
        (with_reducible refine Calls.mono (H6.out _) ?_)
        rintro e W4 ⟨rfl, hr⟩
        replace BR := BR.reach hr
        replace BU := BU.reach hr
        replace Q := Reach.trans Q hr
        clear hr
        obtain ⟨⟨x0_0, x0_1, x0_2, x0_3, x0_4, x0_5⟩, y0_0, y0_1, y0_2, y0_3, y0_4, y0_5⟩ := BR.sixf
        have xl0 := BR.lt
        obtain ⟨⟨x1_0, x1_1, x1_2, x1_3, x1_4, x1_5⟩, y1_0, y1_1, y1_2, y1_3, y1_4, y1_5⟩ := BU.sixf
        have xl1 := BU.lt
        go_wp2_with fail
        clear x0_0 x0_1 x0_2 x0_3 x0_4 x0_5 y0_0 y0_1 y0_2 y0_3 y0_4 y0_5 xl0 x1_0 x1_1 x1_2 x1_3 x1_4 x1_5 y1_0 y1_1 y1_2 y1_3 y1_4 y1_5 xl1
        replace BU := BU.put 0 (.bool q0)
        replace BR := BR.set ⟨nBU, 0, none⟩ (by first | (simp; done) | (simp; omega)) (.bool q0)
        replace Q := Reach.setCell (p := ⟨nBU, 0, none⟩) Q (by first | (simp; done) | (simp; omega)) (.bool q0)
        replace BU := BU.put 1 (.string ⟨q1.toArray⟩)
        replace BR := BR.set ⟨nBU, 1, none⟩ (by first | (simp; done) | (simp; omega)) (.string ⟨q1.toArray⟩)
        replace Q := Reach.setCell (p := ⟨nBU, 1, none⟩) Q (by first | (simp; done) | (simp; omega)) (.string ⟨q1.toArray⟩)
        replace BU := BU.put 2 (.string ⟨q2.toArray⟩)
        replace BR := BR.set ⟨nBU, 2, none⟩ (by first | (simp; done) | (simp; omega)) (.string ⟨q2.toArray⟩)
        replace Q := Reach.setCell (p := ⟨nBU, 2, none⟩) Q (by first | (simp; done) | (simp; omega)) (.string ⟨q2.toArray⟩)
        replace BU := BU.put 3 (.int .i64 q3)
        replace BR := BR.set ⟨nBU, 3, none⟩ (by first | (simp; done) | (simp; omega)) (.int .i64 q3)
        replace Q := Reach.setCell (p := ⟨nBU, 3, none⟩) Q (by first | (simp; done) | (simp; omega)) (.int .i64 q3)
        replace BU := BU.put 4 (.string ⟨q4.toArray⟩)
        replace BR := BR.set ⟨nBU, 4, none⟩ (by first | (simp; done) | (simp; omega)) (.string ⟨q4.toArray⟩)
        replace Q := Reach.setCell (p := ⟨nBU, 4, none⟩) Q (by first | (simp; done) | (simp; omega)) (.string ⟨q4.toArray⟩)
        replace BU := BU.put 5 (.string ⟨q5.toArray⟩)
        replace BR := BR.set ⟨nBU, 5, none⟩ (by first | (simp; done) | (simp; omega)) (.string ⟨q5.toArray⟩)
        replace Q := Reach.setCell (p := ⟨nBU, 5, none⟩) Q (by first | (simp; done) | (simp; omega)) (.string ⟨q5.toArray⟩)
        generalize (((((W4.setCell ⟨nBU, 0, none⟩ (.bool q0)).setCell ⟨nBU, 1, none⟩ (.string ⟨q1.toArray⟩)).setCell ⟨nBU, 2, none⟩ (.string ⟨q2.toArray⟩)).setCell ⟨nBU, 3, none⟩ (.int .i64 q3)).setCell ⟨nBU, 4, none⟩ (.string ⟨q4.toArray⟩)).setCell ⟨nBU, 5, none⟩ (.string ⟨q5.toArray⟩) = W5 at BU BR Q ⊢
        (with_reducible refine Calls.mono (H5.out _) ?_)
        rintro e W6 ⟨rfl, hr⟩
        replace BR := BR.reach hr
        replace BU := BU.reach hr
        replace Q := Reach.trans Q hr
        clear hr
        obtain ⟨⟨x0_0, x0_1, x0_2, x0_3, x0_4, x0_5⟩, y0_0, y0_1, y0_2, y0_3, y0_4, y0_5⟩ := BR.sixf
        have xl0 := BR.lt
        obtain ⟨x1_0, x1_1, x1_2, x1_3, x1_4, x1_5⟩ := BU.six
        have xl1 := BU.lt
        go_wp2_with fail
        clear x0_0 x0_1 x0_2 x0_3 x0_4 x0_5 y0_0 y0_1 y0_2 y0_3 y0_4 y0_5 xl0 x1_0 x1_1 x1_2 x1_3 x1_4 x1_5 xl1
        have BR1 := ((((((BR.put 0 (.bool false)).put 1 (.string ⟨#[]⟩)).put 2 (.string ⟨#[]⟩)).put 3 (.int .i64 0)).put 4 (.string ⟨#[]⟩)).put 5 (.string ⟨#[]⟩))
        obtain ⟨r0, r1, r2, r3, r4, r5⟩ := BR1.six
        refine bodyPost_ret (v := .tuple #[.agg #[.bool false, .string ⟨#[]⟩, .string ⟨#[]⟩, .int .i64 0, .string ⟨#[]⟩, .string ⟨#[]⟩], .int .i64 50]) (by simp [results, Tryz.results38, go_sem, r0, r1, r2, r3, r4, r5]) rfl ⟨rfl, ?_⟩
        exact Reach.setCell (Reach.setCell (Reach.setCell (Reach.setCell (Reach.setCell (Reach.setCell Q (by simp) _) (by simp) _) (by simp) _) (by simp) _) (by simp) _) (by simp) _
      · simp only [if_true] at hpu hpe
        rw [hraw rfl] at hpu
        subst hpu hpe
        simp only
        clear hpb hraw hd b1 b2 b3 b4 b5 b6
        go_enter Tryz.func38, Tryz.ntmps38
        go_wp2_with (first | (go_at_call 41; (with_reducible refine Calls.mono (HTT.out _) ?_); rintro e w' ⟨rfl, rfl⟩))
        have BR : Blk (w.alloc (.cells #[.bool false, .string ⟨#[]⟩, .string ⟨#[]⟩, .int .i64 0, .string ⟨#[]⟩, .string ⟨#[]⟩] 23)) (w.heap.size) #[.bool false, .string ⟨#[]⟩, .string ⟨#[]⟩, .int .i64 0, .string ⟨#[]⟩, .string ⟨#[]⟩] 23 := by have h := Blk.new w #[.bool false, .string ⟨#[]⟩, .string ⟨#[]⟩, .int .i64 0, .string ⟨#[]⟩, .string ⟨#[]⟩] 23; exact h
        have Q : Reach w _ := Reach.alloc (Reach.refl w) (.cells #[.bool false, .string ⟨#[]⟩, .string ⟨#[]⟩, .int .i64 0, .string ⟨#[]⟩, .string ⟨#[]⟩] 23)
        generalize w.alloc (.cells #[.bool false, .string ⟨#[]⟩, .string ⟨#[]⟩, .int .i64 0, .string ⟨#[]⟩, .string ⟨#[]⟩] 23) = W0 at BR Q ⊢
        (with_reducible refine Calls.mono (H1.out _) ?_)
        rintro e W1 ⟨rfl, hr⟩
        replace BR := BR.reach hr
        replace Q := Reach.trans Q hr
        clear hr
        obtain ⟨⟨x0_0, x0_1, x0_2, x0_3, x0_4, x0_5⟩, y0_0, y0_1, y0_2, y0_3, y0_4, y0_5⟩ := BR.sixf
        have xl0 := BR.lt
        go_wp2_with fail
        clear x0_0 x0_1 x0_2 x0_3 x0_4 x0_5 y0_0 y0_1 y0_2 y0_3 y0_4 y0_5 xl0
        (with_reducible refine Calls.mono (H2.out _) ?_)
        rintro e W2 ⟨rfl, hr⟩
        replace BR := BR.reach hr
        replace Q := Reach.trans Q hr
        clear hr
        obtain ⟨⟨x0_0, x0_1, x0_2, x0_3, x0_4, x0_5⟩, y0_0, y0_1, y0_2, y0_3, y0_4, y0_5⟩ := BR.sixf
        have xl0 := BR.lt
        go_wp2_with fail
        clear x0_0 x0_1 x0_2 x0_3 x0_4 x0_5 y0_0 y0_1 y0_2 y0_3 y0_4 y0_5 xl0
        (with_reducible refine Calls.mono (H3.out _) ?_)
        rintro e W3 ⟨rfl, hr⟩
        replace BR := BR.reach hr
        replace Q := Reach.trans Q hr
        clear hr
        obtain ⟨⟨x0_0, x0_1, x0_2, x0_3, x0_4, x0_5⟩, y0_0, y0_1, y0_2, y0_3, y0_4, y0_5⟩ := BR.sixf
        have xl0 := BR.lt
        go_wp2_with (first | (go_at_call 41; (with_reducible refine Calls.mono (HT1.out _) ?_); rintro e w' ⟨rfl, rfl⟩))
        clear x0_0 x0_1 x0_2 x0_3 x0_4 x0_5 y0_0 y0_1 y0_2 y0_3 y0_4 y0_5 xl0
        have hnn := BR.lt
        have BU : Blk (W3.alloc (.cells #[.bool true, .string ⟨sc.toArray⟩, .string ⟨#[]⟩, .int .i64 0, .string ⟨tr.toArray⟩, .string ⟨#[]⟩] 23)) (W3.heap.size) #[.bool true, .string ⟨sc.toArray⟩, .string ⟨#[]⟩, .int .i64 0, .string ⟨tr.toArray⟩, .string ⟨#[]⟩] 23 := by have h := Blk.new W3 #[.bool true, .string ⟨sc.toArray⟩, .string ⟨#[]⟩, .int .i64 0, .string ⟨tr.toArray⟩, .string ⟨#[]⟩] 23; exact h
        replace BR := BR.reach (Reach.alloc (Reach.refl _) (.cells #[.bool true, .string ⟨sc.toArray⟩, .string ⟨#[]⟩, .int .i64 0, .string ⟨tr.toArray⟩, .string ⟨#[]⟩] 23))
        replace Q := Reach.alloc Q (.cells #[.bool true, .string ⟨sc.toArray⟩, .string ⟨#[]⟩, .int .i64 0, .string ⟨tr.toArray⟩, .string ⟨#[]⟩] 23)
        generalize W3.alloc (.cells #[.bool true, .string ⟨sc.toArray⟩, .string ⟨#[]⟩, .int .i64 0, .string ⟨tr.toArray⟩, .string ⟨#[]⟩] 23) = X3 at BR BU Q ⊢
        generalize W3.heap.size = nBU at *
        obtain ⟨⟨x0_0, x0_1, x0_2, x0_3, x0_4, x0_5⟩, y0_0, y0_1, y0_2, y0_3, y0_4, y0_5⟩ := BR.sixf
        have xl0 := BR.lt
        obtain ⟨⟨x1_0, x1_1, x1_2, x1_3, x1_4, x1_5⟩, y1_0, y1_1, y1_2, y1_3, y1_4, y1_5⟩ := BU.sixf
        have xl1 := BU.lt
        go_wp2_with (first | (go_at_call 58; (with_reducible refine Calls.mono (rdefault_calls _ _) ?_); rintro e w' ⟨rfl, rfl⟩))
        clear x0_0 x0_1 x0_2 x0_3 x0_4 x0_5 y0_0 y0_1 y0_2 y0_3 y0_4 y0_5 xl0 x1_0 x1_1 x1_2 x1_3 x1_4 x1_5 y1_0 y1_1 y1_2 y1_3 y1_4 y1_5 xl1
        (with_reducible refine Calls.mono (H6.out _) ?_)
        rintro e W4 ⟨rfl, hr⟩
        replace BR := BR.reach hr
        replace BU := BU.reach hr
        replace Q := Reach.trans Q hr
        clear hr
        obtain ⟨⟨x0_0, x0_1, x0_2, x0_3, x0_4, x0_5⟩, y0_0, y0_1, y0_2, y0_3, y0_4, y0_5⟩ := BR.sixf
        have xl0 := BR.lt
        obtain ⟨⟨x1_0, x1_1, x1_2, x1_3, x1_4, x1_5⟩, y1_0, y1_1, y1_2, y1_3, y1_4, y1_5⟩ := BU.sixf
        have xl1 := BU.lt
        go_wp2_with fail
        clear x0_0 x0_1 x0_2 x0_3 x0_4 x0_5 y0_0 y0_1 y0_2 y0_3 y0_4 y0_5 xl0 x1_0 x1_1 x1_2 x1_3 x1_4 x1_5 y1_0 y1_1 y1_2 y1_3 y1_4 y1_5 xl1
        replace BU := BU.put 0 (.bool q0)
        replace BR := BR.set ⟨nBU, 0, none⟩ (by first | (simp; done) | (simp; omega)) (.bool q0)
        replace Q := Reach.setCell (p := ⟨nBU, 0, none⟩) Q (by first | (simp; done) | (simp; omega)) (.bool q0)
        replace BU := BU.put 1 (.string ⟨q1.toArray⟩)
        replace BR := BR.set ⟨nBU, 1, none⟩ (by first | (simp; done) | (simp; omega)) (.string ⟨q1.toArray⟩)
        replace Q := Reach.setCell (p := ⟨nBU, 1, none⟩) Q (by first | (simp; done) | (simp; omega)) (.string ⟨q1.toArray⟩)
        replace BU := BU.put 2 (.string ⟨q2.toArray⟩)
        replace BR := BR.set ⟨nBU, 2, none⟩ (by first | (simp; done) | (simp; omega)) (.string ⟨q2.toArray⟩)
        replace Q := Reach.setCell (p := ⟨nBU, 2, none⟩) Q (by first | (simp; done) | (simp; omega)) (.string ⟨q2.toArray⟩)
        replace BU := BU.put 3 (.int .i64 q3)
        replace BR := BR.set ⟨nBU, 3, none⟩ (by first | (simp; done) | (simp; omega)) (.int .i64 q3)
        replace Q := Reach.setCell (p := ⟨nBU, 3, none⟩) Q (by first | (simp; done) | (simp; omega)) (.int .i64 q3)
        replace BU := BU.put 4 (.string ⟨q4.toArray⟩)
        replace BR := BR.set ⟨nBU, 4, none⟩ (by first | (simp; done) | (simp; omega)) (.string ⟨q4.toArray⟩)
        replace Q := Reach.setCell (p := ⟨nBU, 4, none⟩) Q (by first | (simp; done) | (simp; omega)) (.string ⟨q4.toArray⟩)
        replace BU := BU.put 5 (.string ⟨q5.toArray⟩)
        replace BR := BR.set ⟨nBU, 5, none⟩ (by first | (simp; done) | (simp; omega)) (.string ⟨q5.toArray⟩)
        replace Q := Reach.setCell (p := ⟨nBU, 5, none⟩) Q (by first | (simp; done) | (simp; omega)) (.string ⟨q5.toArray⟩)
        generalize (((((W4.setCell ⟨nBU, 0, none⟩ (.bool q0)).setCell ⟨nBU, 1, none⟩ (.string ⟨q1.toArray⟩)).setCell ⟨nBU, 2, none⟩ (.string ⟨q2.toArray⟩)).setCell ⟨nBU, 3, none⟩ (.int .i64 q3)).setCell ⟨nBU, 4, none⟩ (.string ⟨q4.toArray⟩)).setCell ⟨nBU, 5, none⟩ (.string ⟨q5.toArray⟩) = W5 at BU BR Q ⊢
        (with_reducible refine Calls.mono (H5.out _) ?_)
        rintro e W6 ⟨rfl, hr⟩
        replace BR := BR.reach hr
        replace BU := BU.reach hr
        replace Q := Reach.trans Q hr
        clear hr
        obtain ⟨⟨x0_0, x0_1, x0_2, x0_3, x0_4, x0_5⟩, y0_0, y0_1, y0_2, y0_3, y0_4, y0_5⟩ := BR.sixf
        have xl0 := BR.lt
        obtain ⟨x1_0, x1_1, x1_2, x1_3, x1_4, x1_5⟩ := BU.six
        have xl1 := BU.lt
        go_wp2_with fail
        clear x0_0 x0_1 x0_2 x0_3 x0_4 x0_5 y0_0 y0_1 y0_2 y0_3 y0_4 y0_5 xl0 x1_0 x1_1 x1_2 x1_3 x1_4 x1_5 xl1
        have BR1 := ((((((BR.put 0 (.bool q0)).put 1 (.string ⟨q1.toArray⟩)).put 2 (.string ⟨q2.toArray⟩)).put 3 (.int .i64 q3)).put 4 (.string ⟨q4.toArray⟩)).put 5 (.string ⟨q5.toArray⟩))
        obtain ⟨r0, r1, r2, r3, r4, r5⟩ := BR1.six
        refine bodyPost_ret (v := .tuple #[.agg #[.bool q0, .string ⟨q1.toArray⟩, .string ⟨q2.toArray⟩, .int .i64 q3, .string ⟨q4.toArray⟩, .string ⟨q5.toArray⟩], .int .i64 0]) (by simp [results, Tryz.results38, go_sem, r0, r1, r2, r3, r4, r5]) rfl ⟨rfl, ?_⟩
        exact Reach.setCell (Reach.setCell (Reach.setCell (Reach.setCell (Reach.setCell (Reach.setCell Q (by simp) _) (by simp) _) (by simp) _) (by simp) _) (by simp) _) (by simp) _
end Go.Proofs.YtbeaheicjopooaaGreatDoor
