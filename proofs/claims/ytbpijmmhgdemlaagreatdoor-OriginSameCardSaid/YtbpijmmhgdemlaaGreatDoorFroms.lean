/- The examples of the chapter on origins hold of the program; no condition but on the library's own variables. -/
import Derived.Test.YtbpijmmhgdemlaaGreatDoorProg
import Derived.Test.YtbpijmmhgdemlaaGreatDoorParse
import Derived.Test.YtbpijmmhgdemlaaGreatDoorOrig
namespace Go.Proofs.YtbpijmmhgdemlaaGreatDoor
open Go.RowKit Go.Sort
attribute [local go_sem] get_mk mk_append mk_extract0 mk_extract_end mk_extract_cons empty_mk cell_grow frozen_grow size_grow

theorem froms_0 (w : World) (hE : Env w) : Calls Tryz.prog 21 #[.string ⟨#[104, 116, 116, 112, 115, 58, 47, 47, 97, 46, 98, 47, 120]⟩] w fun e w' => e = .returned (.tuple #[.agg #[.bool false, .string ⟨#[104, 116, 116, 112, 115]⟩, .string ⟨#[97, 46, 98]⟩, .int .i64 0, .string ⟨#[47, 120]⟩, .string ⟨#[]⟩], .int .i64 0]) ∧ Reach w w' := by
  have h := parse_calls [104, 116, 116, 112, 115, 58, 47, 47, 97, 46, 98, 47, 120] w (by decide) hE
  rw [show parseU [104, 116, 116, 112, 115, 58, 47, 47, 97, 46, 98, 47, 120] = ⟨false, [104, 116, 116, 112, 115], [97, 46, 98], 0, [47, 120], []⟩ by decide +kernel, show parseE [104, 116, 116, 112, 115, 58, 47, 47, 97, 46, 98, 47, 120] = 0 by decide +kernel] at h
  exact h
theorem froms_1 (w : World) (hE : Env w) : Calls Tryz.prog 21 #[.string ⟨#[104, 116, 116, 112, 115, 58, 47, 47, 97, 46, 98, 58, 52, 52, 52, 47]⟩] w fun e w' => e = .returned (.tuple #[.agg #[.bool false, .string ⟨#[104, 116, 116, 112, 115]⟩, .string ⟨#[97, 46, 98]⟩, .int .i64 444, .string ⟨#[47]⟩, .string ⟨#[]⟩], .int .i64 0]) ∧ Reach w w' := by
  have h := parse_calls [104, 116, 116, 112, 115, 58, 47, 47, 97, 46, 98, 58, 52, 52, 52, 47] w (by decide) hE
  rw [show parseU [104, 116, 116, 112, 115, 58, 47, 47, 97, 46, 98, 58, 52, 52, 52, 47] = ⟨false, [104, 116, 116, 112, 115], [97, 46, 98], 444, [47], []⟩ by decide +kernel, show parseE [104, 116, 116, 112, 115, 58, 47, 47, 97, 46, 98, 58, 52, 52, 52, 47] = 0 by decide +kernel] at h
  exact h
theorem froms_2 (w : World) (hE : Env w) : Calls Tryz.prog 21 #[.string ⟨#[100, 97, 116, 97, 58, 120]⟩] w fun e w' => e = .returned (.tuple #[.agg #[.bool true, .string ⟨#[100, 97, 116, 97]⟩, .string ⟨#[]⟩, .int .i64 0, .string ⟨#[120]⟩, .string ⟨#[]⟩], .int .i64 0]) ∧ Reach w w' := by
  have h := parse_calls [100, 97, 116, 97, 58, 120] w (by decide) hE
  rw [show parseU [100, 97, 116, 97, 58, 120] = ⟨true, [100, 97, 116, 97], [], 0, [120], []⟩ by decide +kernel, show parseE [100, 97, 116, 97, 58, 120] = 0 by decide +kernel] at h
  exact h
theorem froms_3 (w : World) (hE : Env w) : Calls Tryz.prog 30 #[.agg #[.bool false, .string ⟨#[104, 116, 116, 112, 115]⟩, .string ⟨#[97, 46, 98]⟩, .int .i64 0, .string ⟨#[47, 120]⟩, .string ⟨#[]⟩]] w fun e w' => e = .returned (.agg #[.bool false, .string ⟨#[104, 116, 116, 112, 115]⟩, .string ⟨#[97, 46, 98]⟩, .int .i64 443]) ∧ Reach w w' := by
  have h := of_calls false [104, 116, 116, 112, 115] [97, 46, 98] 0 [47, 120] [] w (by decide) (by decide) (by decide) (by decide) (by decide) (by decide) hE
  rw [show orgOf ⟨false, [104, 116, 116, 112, 115], [97, 46, 98], 0, [47, 120], []⟩ = ⟨false, [104, 116, 116, 112, 115], [97, 46, 98], 443⟩ by decide +kernel] at h
  exact h
theorem froms_4 (w : World) (hE : Env w) : Calls Tryz.prog 36 #[.agg #[.bool false, .string ⟨#[104, 116, 116, 112, 115]⟩, .string ⟨#[97, 46, 98]⟩, .int .i64 443]] w fun e w' => e = .returned (.string ⟨#[104, 116, 116, 112, 115, 58, 47, 47, 97, 46, 98]⟩) ∧ Reach w w' := by
  have h := otext_calls false [104, 116, 116, 112, 115] [97, 46, 98] 443 w (by decide) (by decide) (by decide) (by decide) hE
  rw [show orgText ⟨false, [104, 116, 116, 112, 115], [97, 46, 98], 443⟩ = [104, 116, 116, 112, 115, 58, 47, 47, 97, 46, 98] by decide +kernel] at h
  exact h
theorem froms_5 (w : World) (hE : Env w) : Calls Tryz.prog 30 #[.agg #[.bool false, .string ⟨#[104, 116, 116, 112, 115]⟩, .string ⟨#[97, 46, 98]⟩, .int .i64 444, .string ⟨#[47]⟩, .string ⟨#[]⟩]] w fun e w' => e = .returned (.agg #[.bool false, .string ⟨#[104, 116, 116, 112, 115]⟩, .string ⟨#[97, 46, 98]⟩, .int .i64 444]) ∧ Reach w w' := by
  have h := of_calls false [104, 116, 116, 112, 115] [97, 46, 98] 444 [47] [] w (by decide) (by decide) (by decide) (by decide) (by decide) (by decide) hE
  rw [show orgOf ⟨false, [104, 116, 116, 112, 115], [97, 46, 98], 444, [47], []⟩ = ⟨false, [104, 116, 116, 112, 115], [97, 46, 98], 444⟩ by decide +kernel] at h
  exact h
theorem froms_6 (w : World) (hE : Env w) : Calls Tryz.prog 36 #[.agg #[.bool false, .string ⟨#[104, 116, 116, 112, 115]⟩, .string ⟨#[97, 46, 98]⟩, .int .i64 444]] w fun e w' => e = .returned (.string ⟨#[104, 116, 116, 112, 115, 58, 47, 47, 97, 46, 98, 58, 52, 52, 52]⟩) ∧ Reach w w' := by
  have h := otext_calls false [104, 116, 116, 112, 115] [97, 46, 98] 444 w (by decide) (by decide) (by decide) (by decide) hE
  rw [show orgText ⟨false, [104, 116, 116, 112, 115], [97, 46, 98], 444⟩ = [104, 116, 116, 112, 115, 58, 47, 47, 97, 46, 98, 58, 52, 52, 52] by decide +kernel] at h
  exact h
theorem froms_7 (w : World) (hE : Env w) : Calls Tryz.prog 30 #[.agg #[.bool true, .string ⟨#[100, 97, 116, 97]⟩, .string ⟨#[]⟩, .int .i64 0, .string ⟨#[120]⟩, .string ⟨#[]⟩]] w fun e w' => e = .returned (.agg #[.bool true, .string ⟨#[]⟩, .string ⟨#[]⟩, .int .i64 0]) ∧ Reach w w' := by
  have h := of_calls true [100, 97, 116, 97] [] 0 [120] [] w (by decide) (by decide) (by decide) (by decide) (by decide) (by decide) hE
  rw [show orgOf ⟨true, [100, 97, 116, 97], [], 0, [120], []⟩ = ⟨true, [], [], 0⟩ by decide +kernel] at h
  exact h
theorem froms_8 (w : World) (hE : Env w) : Calls Tryz.prog 36 #[.agg #[.bool true, .string ⟨#[]⟩, .string ⟨#[]⟩, .int .i64 0]] w fun e w' => e = .returned (.string ⟨#[110, 117, 108, 108]⟩) ∧ Reach w w' := by
  have h := otext_calls true [] [] 0 w (by decide) (by decide) (by decide) (by decide) hE
  rw [show orgText ⟨true, [], [], 0⟩ = [110, 117, 108, 108] by decide +kernel] at h
  exact h
theorem froms_9 (w : World) (_hE : Env w) : Calls Tryz.prog 34 #[.agg #[.bool false, .string ⟨#[104, 116, 116, 112, 115]⟩, .string ⟨#[97, 46, 98]⟩, .int .i64 443], .agg #[.bool false, .string ⟨#[104, 116, 116, 112, 115]⟩, .string ⟨#[97, 46, 98]⟩, .int .i64 443]] w fun e w' => e = .returned (.bool true) ∧ Reach w w' := by
  have h := osame_calls ⟨false, [104, 116, 116, 112, 115], [97, 46, 98], 443⟩ ⟨false, [104, 116, 116, 112, 115], [97, 46, 98], 443⟩ w
  rw [show orgSame ⟨false, [104, 116, 116, 112, 115], [97, 46, 98], 443⟩ ⟨false, [104, 116, 116, 112, 115], [97, 46, 98], 443⟩ = true by decide +kernel] at h
  exact h
theorem froms_10 (w : World) (_hE : Env w) : Calls Tryz.prog 34 #[.agg #[.bool false, .string ⟨#[104, 116, 116, 112, 115]⟩, .string ⟨#[97, 46, 98]⟩, .int .i64 443], .agg #[.bool false, .string ⟨#[104, 116, 116, 112, 115]⟩, .string ⟨#[97, 46, 98]⟩, .int .i64 444]] w fun e w' => e = .returned (.bool false) ∧ Reach w w' := by
  have h := osame_calls ⟨false, [104, 116, 116, 112, 115], [97, 46, 98], 443⟩ ⟨false, [104, 116, 116, 112, 115], [97, 46, 98], 444⟩ w
  rw [show orgSame ⟨false, [104, 116, 116, 112, 115], [97, 46, 98], 443⟩ ⟨false, [104, 116, 116, 112, 115], [97, 46, 98], 444⟩ = false by decide +kernel] at h
  exact h
theorem froms_11 (w : World) (_hE : Env w) : Calls Tryz.prog 34 #[.agg #[.bool true, .string ⟨#[]⟩, .string ⟨#[]⟩, .int .i64 0], .agg #[.bool true, .string ⟨#[]⟩, .string ⟨#[]⟩, .int .i64 0]] w fun e w' => e = .returned (.bool false) ∧ Reach w w' := by
  have h := osame_calls ⟨true, [], [], 0⟩ ⟨true, [], [], 0⟩ w
  rw [show orgSame ⟨true, [], [], 0⟩ ⟨true, [], [], 0⟩ = false by decide +kernel] at h
  exact h
theorem froms_12 (w : World) (hE : Env w) : Calls Tryz.prog 32 #[.agg #[.bool false, .string ⟨#[104, 116, 116, 112, 115]⟩, .string ⟨#[97, 46, 98]⟩, .int .i64 0, .string ⟨#[47, 120]⟩, .string ⟨#[]⟩]] w fun e w' => e = .returned (.bool true) ∧ Reach w w' := by
  have h := secure_calls false [104, 116, 116, 112, 115] [97, 46, 98] 0 [47, 120] [] w (by decide) (by decide) (by decide) (by decide) (by decide) (by decide) hE
  rw [show secureB ⟨false, [104, 116, 116, 112, 115], [97, 46, 98], 0, [47, 120], []⟩ = true by decide +kernel] at h
  exact h
theorem froms_13 (w : World) (hE : Env w) : Calls Tryz.prog 32 #[.agg #[.bool true, .string ⟨#[100, 97, 116, 97]⟩, .string ⟨#[]⟩, .int .i64 0, .string ⟨#[120]⟩, .string ⟨#[]⟩]] w fun e w' => e = .returned (.bool false) ∧ Reach w w' := by
  have h := secure_calls true [100, 97, 116, 97] [] 0 [120] [] w (by decide) (by decide) (by decide) (by decide) (by decide) (by decide) hE
  rw [show secureB ⟨true, [100, 97, 116, 97], [], 0, [120], []⟩ = false by decide +kernel] at h
  exact h
set_option maxRecDepth 100000 in
set_option maxHeartbeats 4000000 in
theorem froms_calls (w : World) (hE : Env w) : Calls Tryz.prog 29 #[] w fun e w' => e = .returned (.bool true) ∧ Reach w w' := by
  have HE := Lib.hid hE
  clear hE
  go_enter Tryz.func29, Tryz.ntmps29
  have Q := Reach.refl w
  go_wp2_with fail
  refine Calls.mono (froms_0 _ (Env.reach HE.out Q)) ?_
  rintro e W0 ⟨rfl, hr⟩
  replace Q := Reach.trans Q hr
  clear hr
  go_wp2_with fail
  have B1 := Blk.new W0 #[.bool false, .string ⟨#[104, 116, 116, 112, 115]⟩, .string ⟨#[97, 46, 98]⟩, .int .i64 0, .string ⟨#[47, 120]⟩, .string ⟨#[]⟩] 23
  replace Q := Reach.alloc Q (.cells #[.bool false, .string ⟨#[104, 116, 116, 112, 115]⟩, .string ⟨#[97, 46, 98]⟩, .int .i64 0, .string ⟨#[47, 120]⟩, .string ⟨#[]⟩] 23)
  generalize W0.alloc (.cells #[.bool false, .string ⟨#[104, 116, 116, 112, 115]⟩, .string ⟨#[97, 46, 98]⟩, .int .i64 0, .string ⟨#[47, 120]⟩, .string ⟨#[]⟩] 23) = X1 at B1 Q ⊢
  generalize W0.heap.size = nB1 at *
  obtain ⟨x0_0, x0_1, x0_2, x0_3, x0_4, x0_5⟩ := B1.six
  have xl0 := B1.lt
  go_wp2_with fail
  clear x0_0 x0_1 x0_2 x0_3 x0_4 x0_5 xl0
  refine Calls.mono (froms_1 _ (Env.reach HE.out Q)) ?_
  rintro e W2 ⟨rfl, hr⟩
  replace B1 := B1.reach hr
  replace Q := Reach.trans Q hr
  clear hr
  obtain ⟨x0_0, x0_1, x0_2, x0_3, x0_4, x0_5⟩ := B1.six
  have xl0 := B1.lt
  go_wp2_with fail
  clear x0_0 x0_1 x0_2 x0_3 x0_4 x0_5 xl0
  have B3 := Blk.new W2 #[.bool false, .string ⟨#[104, 116, 116, 112, 115]⟩, .string ⟨#[97, 46, 98]⟩, .int .i64 444, .string ⟨#[47]⟩, .string ⟨#[]⟩] 23
  replace B1 := B1.reach (Reach.alloc (Reach.refl _) (.cells #[.bool false, .string ⟨#[104, 116, 116, 112, 115]⟩, .string ⟨#[97, 46, 98]⟩, .int .i64 444, .string ⟨#[47]⟩, .string ⟨#[]⟩] 23))
  replace Q := Reach.alloc Q (.cells #[.bool false, .string ⟨#[104, 116, 116, 112, 115]⟩, .string ⟨#[97, 46, 98]⟩, .int .i64 444, .string ⟨#[47]⟩, .string ⟨#[]⟩] 23)
  generalize W2.alloc (.cells #[.bool false, .string ⟨#[104, 116, 116, 112, 115]⟩, .string ⟨#[97, 46, 98]⟩, .int .i64 444, .string ⟨#[47]⟩, .string ⟨#[]⟩] 23) = X3 at B3 B1 Q ⊢
  generalize W2.heap.size = nB3 at *
  obtain ⟨x0_0, x0_1, x0_2, x0_3, x0_4, x0_5⟩ := B1.six
  have xl0 := B1.lt
  obtain ⟨x1_0, x1_1, x1_2, x1_3, x1_4, x1_5⟩ := B3.six
  have xl1 := B3.lt
  go_wp2_with fail
  clear x0_0 x0_1 x0_2 x0_3 x0_4 x0_5 xl0 x1_0 x1_1 x1_2 x1_3 x1_4 x1_5 xl1
  refine Calls.mono (froms_2 _ (Env.reach HE.out Q)) ?_
  rintro e W4 ⟨rfl, hr⟩
  replace B1 := B1.reach hr
  replace B3 := B3.reach hr
  replace Q := Reach.trans Q hr
  clear hr
  obtain ⟨x0_0, x0_1, x0_2, x0_3, x0_4, x0_5⟩ := B1.six
  have xl0 := B1.lt
  obtain ⟨x1_0, x1_1, x1_2, x1_3, x1_4, x1_5⟩ := B3.six
  have xl1 := B3.lt
  go_wp2_with fail
  clear x0_0 x0_1 x0_2 x0_3 x0_4 x0_5 xl0 x1_0 x1_1 x1_2 x1_3 x1_4 x1_5 xl1
  have B5 := Blk.new W4 #[.bool true, .string ⟨#[100, 97, 116, 97]⟩, .string ⟨#[]⟩, .int .i64 0, .string ⟨#[120]⟩, .string ⟨#[]⟩] 23
  replace B1 := B1.reach (Reach.alloc (Reach.refl _) (.cells #[.bool true, .string ⟨#[100, 97, 116, 97]⟩, .string ⟨#[]⟩, .int .i64 0, .string ⟨#[120]⟩, .string ⟨#[]⟩] 23))
  replace B3 := B3.reach (Reach.alloc (Reach.refl _) (.cells #[.bool true, .string ⟨#[100, 97, 116, 97]⟩, .string ⟨#[]⟩, .int .i64 0, .string ⟨#[120]⟩, .string ⟨#[]⟩] 23))
  replace Q := Reach.alloc Q (.cells #[.bool true, .string ⟨#[100, 97, 116, 97]⟩, .string ⟨#[]⟩, .int .i64 0, .string ⟨#[120]⟩, .string ⟨#[]⟩] 23)
  generalize W4.alloc (.cells #[.bool true, .string ⟨#[100, 97, 116, 97]⟩, .string ⟨#[]⟩, .int .i64 0, .string ⟨#[120]⟩, .string ⟨#[]⟩] 23) = X5 at B5 B1 B3 Q ⊢
  generalize W4.heap.size = nB5 at *
  obtain ⟨x0_0, x0_1, x0_2, x0_3, x0_4, x0_5⟩ := B1.six
  have xl0 := B1.lt
  obtain ⟨x1_0, x1_1, x1_2, x1_3, x1_4, x1_5⟩ := B3.six
  have xl1 := B3.lt
  obtain ⟨x2_0, x2_1, x2_2, x2_3, x2_4, x2_5⟩ := B5.six
  have xl2 := B5.lt
  go_wp2_with fail
  clear x0_0 x0_1 x0_2 x0_3 x0_4 x0_5 xl0 x1_0 x1_1 x1_2 x1_3 x1_4 x1_5 xl1 x2_0 x2_1 x2_2 x2_3 x2_4 x2_5 xl2
  refine Calls.mono (froms_3 _ (Env.reach HE.out Q)) ?_
  rintro e W6 ⟨rfl, hr⟩
  replace B1 := B1.reach hr
  replace B3 := B3.reach hr
  replace B5 := B5.reach hr
  replace Q := Reach.trans Q hr
  clear hr
  obtain ⟨x0_0, x0_1, x0_2, x0_3, x0_4, x0_5⟩ := B1.six
  have xl0 := B1.lt
  obtain ⟨x1_0, x1_1, x1_2, x1_3, x1_4, x1_5⟩ := B3.six
  have xl1 := B3.lt
  obtain ⟨x2_0, x2_1, x2_2, x2_3, x2_4, x2_5⟩ := B5.six
  have xl2 := B5.lt
  go_wp2_with fail
  clear x0_0 x0_1 x0_2 x0_3 x0_4 x0_5 xl0 x1_0 x1_1 x1_2 x1_3 x1_4 x1_5 xl1 x2_0 x2_1 x2_2 x2_3 x2_4 x2_5 xl2
  refine Calls.mono (froms_4 _ (Env.reach HE.out Q)) ?_
  rintro e W7 ⟨rfl, hr⟩
  replace B1 := B1.reach hr
  replace B3 := B3.reach hr
  replace B5 := B5.reach hr
  replace Q := Reach.trans Q hr
  clear hr
  obtain ⟨x0_0, x0_1, x0_2, x0_3, x0_4, x0_5⟩ := B1.six
  have xl0 := B1.lt
  obtain ⟨x1_0, x1_1, x1_2, x1_3, x1_4, x1_5⟩ := B3.six
  have xl1 := B3.lt
  obtain ⟨x2_0, x2_1, x2_2, x2_3, x2_4, x2_5⟩ := B5.six
  have xl2 := B5.lt
  go_wp2_with fail
  clear x0_0 x0_1 x0_2 x0_3 x0_4 x0_5 xl0 x1_0 x1_1 x1_2 x1_3 x1_4 x1_5 xl1 x2_0 x2_1 x2_2 x2_3 x2_4 x2_5 xl2
  refine Calls.mono (froms_5 _ (Env.reach HE.out Q)) ?_
  rintro e W8 ⟨rfl, hr⟩
  replace B1 := B1.reach hr
  replace B3 := B3.reach hr
  replace B5 := B5.reach hr
  replace Q := Reach.trans Q hr
  clear hr
  obtain ⟨x0_0, x0_1, x0_2, x0_3, x0_4, x0_5⟩ := B1.six
  have xl0 := B1.lt
  obtain ⟨x1_0, x1_1, x1_2, x1_3, x1_4, x1_5⟩ := B3.six
  have xl1 := B3.lt
  obtain ⟨x2_0, x2_1, x2_2, x2_3, x2_4, x2_5⟩ := B5.six
  have xl2 := B5.lt
  go_wp2_with fail
  clear x0_0 x0_1 x0_2 x0_3 x0_4 x0_5 xl0 x1_0 x1_1 x1_2 x1_3 x1_4 x1_5 xl1 x2_0 x2_1 x2_2 x2_3 x2_4 x2_5 xl2
  refine Calls.mono (froms_6 _ (Env.reach HE.out Q)) ?_
  rintro e W9 ⟨rfl, hr⟩
  replace B1 := B1.reach hr
  replace B3 := B3.reach hr
  replace B5 := B5.reach hr
  replace Q := Reach.trans Q hr
  clear hr
  obtain ⟨x0_0, x0_1, x0_2, x0_3, x0_4, x0_5⟩ := B1.six
  have xl0 := B1.lt
  obtain ⟨x1_0, x1_1, x1_2, x1_3, x1_4, x1_5⟩ := B3.six
  have xl1 := B3.lt
  obtain ⟨x2_0, x2_1, x2_2, x2_3, x2_4, x2_5⟩ := B5.six
  have xl2 := B5.lt
  go_wp2_with fail
  clear x0_0 x0_1 x0_2 x0_3 x0_4 x0_5 xl0 x1_0 x1_1 x1_2 x1_3 x1_4 x1_5 xl1 x2_0 x2_1 x2_2 x2_3 x2_4 x2_5 xl2
  refine Calls.mono (froms_7 _ (Env.reach HE.out Q)) ?_
  rintro e W10 ⟨rfl, hr⟩
  replace B1 := B1.reach hr
  replace B3 := B3.reach hr
  replace B5 := B5.reach hr
  replace Q := Reach.trans Q hr
  clear hr
  obtain ⟨x0_0, x0_1, x0_2, x0_3, x0_4, x0_5⟩ := B1.six
  have xl0 := B1.lt
  obtain ⟨x1_0, x1_1, x1_2, x1_3, x1_4, x1_5⟩ := B3.six
  have xl1 := B3.lt
  obtain ⟨x2_0, x2_1, x2_2, x2_3, x2_4, x2_5⟩ := B5.six
  have xl2 := B5.lt
  go_wp2_with fail
  clear x0_0 x0_1 x0_2 x0_3 x0_4 x0_5 xl0 x1_0 x1_1 x1_2 x1_3 x1_4 x1_5 xl1 x2_0 x2_1 x2_2 x2_3 x2_4 x2_5 xl2
  refine Calls.mono (froms_8 _ (Env.reach HE.out Q)) ?_
  rintro e W11 ⟨rfl, hr⟩
  replace B1 := B1.reach hr
  replace B3 := B3.reach hr
  replace B5 := B5.reach hr
  replace Q := Reach.trans Q hr
  clear hr
  obtain ⟨x0_0, x0_1, x0_2, x0_3, x0_4, x0_5⟩ := B1.six
  have xl0 := B1.lt
  obtain ⟨x1_0, x1_1, x1_2, x1_3, x1_4, x1_5⟩ := B3.six
  have xl1 := B3.lt
  obtain ⟨x2_0, x2_1, x2_2, x2_3, x2_4, x2_5⟩ := B5.six
  have xl2 := B5.lt
  clear B1 B3 B5
  go_wp2_with (first | (go_at_call 30; (with_reducible refine Calls.mono (froms_3 _ (Env.reach HE.out (by (repeat (first | (with_reducible assumption) | (with_reducible exact Reach.refl _) | (with_reducible refine Reach.alloc ?_ _) | (with_reducible refine Reach.drew ?_) | (with_reducible refine Reach.drewN ?_ _) | (with_reducible refine Reach.grow ?_ _ _) | (with_reducible refine Reach.setCell ?_ ?_ _) | (with_reducible refine Reach.trans ?_ (by with_reducible assumption)) | (show _ ≤ Addr.block _; first | (exact Nat.le_refl _) | (show (_ : Nat) ≤ _; omega)) | (simp; done) | (simp; omega)))))) ?_); rintro e w' ⟨rfl, hb⟩; obtain ⟨hc, hf, hz⟩ := Reach.facts hb) | (go_at_call 30; (with_reducible refine Calls.mono (froms_5 _ (Env.reach HE.out (by (repeat (first | (with_reducible assumption) | (with_reducible exact Reach.refl _) | (with_reducible refine Reach.alloc ?_ _) | (with_reducible refine Reach.drew ?_) | (with_reducible refine Reach.drewN ?_ _) | (with_reducible refine Reach.grow ?_ _ _) | (with_reducible refine Reach.setCell ?_ ?_ _) | (with_reducible refine Reach.trans ?_ (by with_reducible assumption)) | (show _ ≤ Addr.block _; first | (exact Nat.le_refl _) | (show (_ : Nat) ≤ _; omega)) | (simp; done) | (simp; omega)))))) ?_); rintro e w' ⟨rfl, hb⟩; obtain ⟨hc, hf, hz⟩ := Reach.facts hb) | (go_at_call 30; (with_reducible refine Calls.mono (froms_7 _ (Env.reach HE.out (by (repeat (first | (with_reducible assumption) | (with_reducible exact Reach.refl _) | (with_reducible refine Reach.alloc ?_ _) | (with_reducible refine Reach.drew ?_) | (with_reducible refine Reach.drewN ?_ _) | (with_reducible refine Reach.grow ?_ _ _) | (with_reducible refine Reach.setCell ?_ ?_ _) | (with_reducible refine Reach.trans ?_ (by with_reducible assumption)) | (show _ ≤ Addr.block _; first | (exact Nat.le_refl _) | (show (_ : Nat) ≤ _; omega)) | (simp; done) | (simp; omega)))))) ?_); rintro e w' ⟨rfl, hb⟩; obtain ⟨hc, hf, hz⟩ := Reach.facts hb) | (go_at_call 34; (with_reducible refine Calls.mono (froms_9 _ (Env.reach HE.out (by (repeat (first | (with_reducible assumption) | (with_reducible exact Reach.refl _) | (with_reducible refine Reach.alloc ?_ _) | (with_reducible refine Reach.drew ?_) | (with_reducible refine Reach.drewN ?_ _) | (with_reducible refine Reach.grow ?_ _ _) | (with_reducible refine Reach.setCell ?_ ?_ _) | (with_reducible refine Reach.trans ?_ (by with_reducible assumption)) | (show _ ≤ Addr.block _; first | (exact Nat.le_refl _) | (show (_ : Nat) ≤ _; omega)) | (simp; done) | (simp; omega)))))) ?_); rintro e w' ⟨rfl, hb⟩; obtain ⟨hc, hf, hz⟩ := Reach.facts hb) | (go_at_call 34; (with_reducible refine Calls.mono (froms_10 _ (Env.reach HE.out (by (repeat (first | (with_reducible assumption) | (with_reducible exact Reach.refl _) | (with_reducible refine Reach.alloc ?_ _) | (with_reducible refine Reach.drew ?_) | (with_reducible refine Reach.drewN ?_ _) | (with_reducible refine Reach.grow ?_ _ _) | (with_reducible refine Reach.setCell ?_ ?_ _) | (with_reducible refine Reach.trans ?_ (by with_reducible assumption)) | (show _ ≤ Addr.block _; first | (exact Nat.le_refl _) | (show (_ : Nat) ≤ _; omega)) | (simp; done) | (simp; omega)))))) ?_); rintro e w' ⟨rfl, hb⟩; obtain ⟨hc, hf, hz⟩ := Reach.facts hb) | (go_at_call 34; (with_reducible refine Calls.mono (froms_11 _ (Env.reach HE.out (by (repeat (first | (with_reducible assumption) | (with_reducible exact Reach.refl _) | (with_reducible refine Reach.alloc ?_ _) | (with_reducible refine Reach.drew ?_) | (with_reducible refine Reach.drewN ?_ _) | (with_reducible refine Reach.grow ?_ _ _) | (with_reducible refine Reach.setCell ?_ ?_ _) | (with_reducible refine Reach.trans ?_ (by with_reducible assumption)) | (show _ ≤ Addr.block _; first | (exact Nat.le_refl _) | (show (_ : Nat) ≤ _; omega)) | (simp; done) | (simp; omega)))))) ?_); rintro e w' ⟨rfl, hb⟩; obtain ⟨hc, hf, hz⟩ := Reach.facts hb) | (go_at_call 32; (with_reducible refine Calls.mono (froms_12 _ (Env.reach HE.out (by (repeat (first | (with_reducible assumption) | (with_reducible exact Reach.refl _) | (with_reducible refine Reach.alloc ?_ _) | (with_reducible refine Reach.drew ?_) | (with_reducible refine Reach.drewN ?_ _) | (with_reducible refine Reach.grow ?_ _ _) | (with_reducible refine Reach.setCell ?_ ?_ _) | (with_reducible refine Reach.trans ?_ (by with_reducible assumption)) | (show _ ≤ Addr.block _; first | (exact Nat.le_refl _) | (show (_ : Nat) ≤ _; omega)) | (simp; done) | (simp; omega)))))) ?_); rintro e w' ⟨rfl, hb⟩; obtain ⟨hc, hf, hz⟩ := Reach.facts hb) | (go_at_call 32; (with_reducible refine Calls.mono (froms_13 _ (Env.reach HE.out (by (repeat (first | (with_reducible assumption) | (with_reducible exact Reach.refl _) | (with_reducible refine Reach.alloc ?_ _) | (with_reducible refine Reach.drew ?_) | (with_reducible refine Reach.drewN ?_ _) | (with_reducible refine Reach.grow ?_ _ _) | (with_reducible refine Reach.setCell ?_ ?_ _) | (with_reducible refine Reach.trans ?_ (by with_reducible assumption)) | (show _ ≤ Addr.block _; first | (exact Nat.le_refl _) | (show (_ : Nat) ≤ _; omega)) | (simp; done) | (simp; omega)))))) ?_); rintro e w' ⟨rfl, hb⟩; obtain ⟨hc, hf, hz⟩ := Reach.facts hb) | ((with_reducible refine wp_region_quiet_below (by kernel_rfl) (by kernel_rfl) ?_); (repeat (any_goals (first | (go_big_quiet_step ((first | (go_at_call 30; with_reducible exact reg_reach (froms_3 _ (Env.reach HE.out (by (repeat (first | (with_reducible assumption) | (with_reducible exact Reach.refl _) | (with_reducible refine Reach.alloc ?_ _) | (with_reducible refine Reach.drew ?_) | (with_reducible refine Reach.drewN ?_ _) | (with_reducible refine Reach.grow ?_ _ _) | (with_reducible refine Reach.setCell ?_ ?_ _) | (with_reducible refine Reach.trans ?_ (by with_reducible assumption)) | (show _ ≤ Addr.block _; first | (exact Nat.le_refl _) | (show (_ : Nat) ≤ _; omega)) | (simp; done) | (simp; omega))))))) | (go_at_call 30; with_reducible exact reg_reach (froms_5 _ (Env.reach HE.out (by (repeat (first | (with_reducible assumption) | (with_reducible exact Reach.refl _) | (with_reducible refine Reach.alloc ?_ _) | (with_reducible refine Reach.drew ?_) | (with_reducible refine Reach.drewN ?_ _) | (with_reducible refine Reach.grow ?_ _ _) | (with_reducible refine Reach.setCell ?_ ?_ _) | (with_reducible refine Reach.trans ?_ (by with_reducible assumption)) | (show _ ≤ Addr.block _; first | (exact Nat.le_refl _) | (show (_ : Nat) ≤ _; omega)) | (simp; done) | (simp; omega))))))) | (go_at_call 30; with_reducible exact reg_reach (froms_7 _ (Env.reach HE.out (by (repeat (first | (with_reducible assumption) | (with_reducible exact Reach.refl _) | (with_reducible refine Reach.alloc ?_ _) | (with_reducible refine Reach.drew ?_) | (with_reducible refine Reach.drewN ?_ _) | (with_reducible refine Reach.grow ?_ _ _) | (with_reducible refine Reach.setCell ?_ ?_ _) | (with_reducible refine Reach.trans ?_ (by with_reducible assumption)) | (show _ ≤ Addr.block _; first | (exact Nat.le_refl _) | (show (_ : Nat) ≤ _; omega)) | (simp; done) | (simp; omega))))))) | (go_at_call 34; with_reducible exact reg_reach (froms_9 _ (Env.reach HE.out (by (repeat (first | (with_reducible assumption) | (with_reducible exact Reach.refl _) | (with_reducible refine Reach.alloc ?_ _) | (with_reducible refine Reach.drew ?_) | (with_reducible refine Reach.drewN ?_ _) | (with_reducible refine Reach.grow ?_ _ _) | (with_reducible refine Reach.setCell ?_ ?_ _) | (with_reducible refine Reach.trans ?_ (by with_reducible assumption)) | (show _ ≤ Addr.block _; first | (exact Nat.le_refl _) | (show (_ : Nat) ≤ _; omega)) | (simp; done) | (simp; omega))))))) | (go_at_call 34; with_reducible exact reg_reach (froms_10 _ (Env.reach HE.out (by (repeat (first | (with_reducible assumption) | (with_reducible exact Reach.refl _) | (with_reducible refine Reach.alloc ?_ _) | (with_reducible refine Reach.drew ?_) | (with_reducible refine Reach.drewN ?_ _) | (with_reducible refine Reach.grow ?_ _ _) | (with_reducible refine Reach.setCell ?_ ?_ _) | (with_reducible refine Reach.trans ?_ (by with_reducible assumption)) | (show _ ≤ Addr.block _; first | (exact Nat.le_refl _) | (show (_ : Nat) ≤ _; omega)) | (simp; done) | (simp; omega))))))) | (go_at_call 34; with_reducible exact reg_reach (froms_11 _ (Env.reach HE.out (by (repeat (first | (with_reducible assumption) | (with_reducible exact Reach.refl _) | (with_reducible refine Reach.alloc ?_ _) | (with_reducible refine Reach.drew ?_) | (with_reducible refine Reach.drewN ?_ _) | (with_reducible refine Reach.grow ?_ _ _) | (with_reducible refine Reach.setCell ?_ ?_ _) | (with_reducible refine Reach.trans ?_ (by with_reducible assumption)) | (show _ ≤ Addr.block _; first | (exact Nat.le_refl _) | (show (_ : Nat) ≤ _; omega)) | (simp; done) | (simp; omega))))))) | (go_at_call 32; with_reducible exact reg_reach (froms_12 _ (Env.reach HE.out (by (repeat (first | (with_reducible assumption) | (with_reducible exact Reach.refl _) | (with_reducible refine Reach.alloc ?_ _) | (with_reducible refine Reach.drew ?_) | (with_reducible refine Reach.drewN ?_ _) | (with_reducible refine Reach.grow ?_ _ _) | (with_reducible refine Reach.setCell ?_ ?_ _) | (with_reducible refine Reach.trans ?_ (by with_reducible assumption)) | (show _ ≤ Addr.block _; first | (exact Nat.le_refl _) | (show (_ : Nat) ≤ _; omega)) | (simp; done) | (simp; omega))))))) | (go_at_call 32; with_reducible exact reg_reach (froms_13 _ (Env.reach HE.out (by (repeat (first | (with_reducible assumption) | (with_reducible exact Reach.refl _) | (with_reducible refine Reach.alloc ?_ _) | (with_reducible refine Reach.drew ?_) | (with_reducible refine Reach.drewN ?_ _) | (with_reducible refine Reach.grow ?_ _ _) | (with_reducible refine Reach.setCell ?_ ?_ _) | (with_reducible refine Reach.trans ?_ (by with_reducible assumption)) | (show _ ≤ Addr.block _; first | (exact Nat.le_refl _) | (show (_ : Nat) ≤ _; omega)) | (simp; done) | (simp; omega)))))))))) | (quiet_step ((first | (go_at_call 30; with_reducible exact reg_reach (froms_3 _ (Env.reach HE.out (by (repeat (first | (with_reducible assumption) | (with_reducible exact Reach.refl _) | (with_reducible refine Reach.alloc ?_ _) | (with_reducible refine Reach.drew ?_) | (with_reducible refine Reach.drewN ?_ _) | (with_reducible refine Reach.grow ?_ _ _) | (with_reducible refine Reach.setCell ?_ ?_ _) | (with_reducible refine Reach.trans ?_ (by with_reducible assumption)) | (show _ ≤ Addr.block _; first | (exact Nat.le_refl _) | (show (_ : Nat) ≤ _; omega)) | (simp; done) | (simp; omega))))))) | (go_at_call 30; with_reducible exact reg_reach (froms_5 _ (Env.reach HE.out (by (repeat (first | (with_reducible assumption) | (with_reducible exact Reach.refl _) | (with_reducible refine Reach.alloc ?_ _) | (with_reducible refine Reach.drew ?_) | (with_reducible refine Reach.drewN ?_ _) | (with_reducible refine Reach.grow ?_ _ _) | (with_reducible refine Reach.setCell ?_ ?_ _) | (with_reducible refine Reach.trans ?_ (by with_reducible assumption)) | (show _ ≤ Addr.block _; first | (exact Nat.le_refl _) | (show (_ : Nat) ≤ _; omega)) | (simp; done) | (simp; omega))))))) | (go_at_call 30; with_reducible exact reg_reach (froms_7 _ (Env.reach HE.out (by (repeat (first | (with_reducible assumption) | (with_reducible exact Reach.refl _) | (with_reducible refine Reach.alloc ?_ _) | (with_reducible refine Reach.drew ?_) | (with_reducible refine Reach.drewN ?_ _) | (with_reducible refine Reach.grow ?_ _ _) | (with_reducible refine Reach.setCell ?_ ?_ _) | (with_reducible refine Reach.trans ?_ (by with_reducible assumption)) | (show _ ≤ Addr.block _; first | (exact Nat.le_refl _) | (show (_ : Nat) ≤ _; omega)) | (simp; done) | (simp; omega))))))) | (go_at_call 34; with_reducible exact reg_reach (froms_9 _ (Env.reach HE.out (by (repeat (first | (with_reducible assumption) | (with_reducible exact Reach.refl _) | (with_reducible refine Reach.alloc ?_ _) | (with_reducible refine Reach.drew ?_) | (with_reducible refine Reach.drewN ?_ _) | (with_reducible refine Reach.grow ?_ _ _) | (with_reducible refine Reach.setCell ?_ ?_ _) | (with_reducible refine Reach.trans ?_ (by with_reducible assumption)) | (show _ ≤ Addr.block _; first | (exact Nat.le_refl _) | (show (_ : Nat) ≤ _; omega)) | (simp; done) | (simp; omega))))))) | (go_at_call 34; with_reducible exact reg_reach (froms_10 _ (Env.reach HE.out (by (repeat (first | (with_reducible assumption) | (with_reducible exact Reach.refl _) | (with_reducible refine Reach.alloc ?_ _) | (with_reducible refine Reach.drew ?_) | (with_reducible refine Reach.drewN ?_ _) | (with_reducible refine Reach.grow ?_ _ _) | (with_reducible refine Reach.setCell ?_ ?_ _) | (with_reducible refine Reach.trans ?_ (by with_reducible assumption)) | (show _ ≤ Addr.block _; first | (exact Nat.le_refl _) | (show (_ : Nat) ≤ _; omega)) | (simp; done) | (simp; omega))))))) | (go_at_call 34; with_reducible exact reg_reach (froms_11 _ (Env.reach HE.out (by (repeat (first | (with_reducible assumption) | (with_reducible exact Reach.refl _) | (with_reducible refine Reach.alloc ?_ _) | (with_reducible refine Reach.drew ?_) | (with_reducible refine Reach.drewN ?_ _) | (with_reducible refine Reach.grow ?_ _ _) | (with_reducible refine Reach.setCell ?_ ?_ _) | (with_reducible refine Reach.trans ?_ (by with_reducible assumption)) | (show _ ≤ Addr.block _; first | (exact Nat.le_refl _) | (show (_ : Nat) ≤ _; omega)) | (simp; done) | (simp; omega))))))) | (go_at_call 32; with_reducible exact reg_reach (froms_12 _ (Env.reach HE.out (by (repeat (first | (with_reducible assumption) | (with_reducible exact Reach.refl _) | (with_reducible refine Reach.alloc ?_ _) | (with_reducible refine Reach.drew ?_) | (with_reducible refine Reach.drewN ?_ _) | (with_reducible refine Reach.grow ?_ _ _) | (with_reducible refine Reach.setCell ?_ ?_ _) | (with_reducible refine Reach.trans ?_ (by with_reducible assumption)) | (show _ ≤ Addr.block _; first | (exact Nat.le_refl _) | (show (_ : Nat) ≤ _; omega)) | (simp; done) | (simp; omega))))))) | (go_at_call 32; with_reducible exact reg_reach (froms_13 _ (Env.reach HE.out (by (repeat (first | (with_reducible assumption) | (with_reducible exact Reach.refl _) | (with_reducible refine Reach.alloc ?_ _) | (with_reducible refine Reach.drew ?_) | (with_reducible refine Reach.drewN ?_ _) | (with_reducible refine Reach.grow ?_ _ _) | (with_reducible refine Reach.setCell ?_ ?_ _) | (with_reducible refine Reach.trans ?_ (by with_reducible assumption)) | (show _ ≤ Addr.block _; first | (exact Nat.le_refl _) | (show (_ : Nat) ≤ _; omega)) | (simp; done) | (simp; omega)))))))))) | (refine wpQuiet_step (fun K hK => ?_); go_simp; split <;> (refine hK _ ?_; clear hK K))))); all_goals (refine wpQuiet_nil ?_; intro _ hw'; obtain ⟨⟨dq, osq⟩, hw''⟩ := hw'; subst hw'')))
  go_ret
  exact ⟨rfl, by (repeat (first | (with_reducible assumption) | (with_reducible exact Reach.refl _) | (with_reducible refine Reach.alloc ?_ _) | (with_reducible refine Reach.drew ?_) | (with_reducible refine Reach.drewN ?_ _) | (with_reducible refine Reach.grow ?_ _ _) | (with_reducible refine Reach.setCell ?_ ?_ _) | (with_reducible refine Reach.trans ?_ (by with_reducible assumption)) | (show _ ≤ Addr.block _; first | (exact Nat.le_refl _) | (show (_ : Nat) ≤ _; omega)) | (simp; done) | (simp; omega)))⟩
end Go.Proofs.YtbpijmmhgdemlaaGreatDoor
