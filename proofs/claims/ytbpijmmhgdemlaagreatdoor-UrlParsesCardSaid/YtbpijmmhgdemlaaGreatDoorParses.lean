/- The examples of the chapter on addresses hold of the program; no condition but on the library's own variables. -/
import Derived.Test.YtbpijmmhgdemlaaGreatDoorProg
import Derived.Test.YtbpijmmhgdemlaaGreatDoorParse
import Derived.Test.YtbpijmmhgdemlaaGreatDoorBlk
namespace Go.Proofs.YtbpijmmhgdemlaaGreatDoor
open Go.RowKit Go.Sort
attribute [local go_sem] get_mk mk_append mk_extract0 mk_extract_end mk_extract_cons empty_mk cell_grow frozen_grow size_grow

theorem parsed0 (w : World) (hE : Env w) : Calls Tryz.prog 21 #[.string ⟨#[72, 84, 84, 80, 58, 47, 47, 65, 46, 98, 58, 56, 48, 47, 120, 47, 46, 47, 121, 47, 46, 46, 47, 122, 63, 113, 35, 102]⟩] w fun e w' =>
    e = .returned (.tuple #[.agg #[.bool false, .string ⟨#[104, 116, 116, 112]⟩, .string ⟨#[97, 46, 98]⟩, .int .i64 0, .string ⟨#[47, 120, 47, 122]⟩, .string ⟨#[63, 113]⟩], .int .i64 0]) ∧ Reach w w' := by
  have h := parse_calls [72, 84, 84, 80, 58, 47, 47, 65, 46, 98, 58, 56, 48, 47, 120, 47, 46, 47, 121, 47, 46, 46, 47, 122, 63, 113, 35, 102] w (by decide) hE
  rw [show parseU [72, 84, 84, 80, 58, 47, 47, 65, 46, 98, 58, 56, 48, 47, 120, 47, 46, 47, 121, 47, 46, 46, 47, 122, 63, 113, 35, 102] = ⟨false, [104, 116, 116, 112], [97, 46, 98], 0, [47, 120, 47, 122], [63, 113]⟩ by decide +kernel, show parseE [72, 84, 84, 80, 58, 47, 47, 65, 46, 98, 58, 56, 48, 47, 120, 47, 46, 47, 121, 47, 46, 46, 47, 122, 63, 113, 35, 102] = 0 by decide +kernel] at h
  exact h
theorem parsed1 (w : World) (hE : Env w) : Calls Tryz.prog 21 #[.string ⟨#[106, 97, 118, 97, 115, 99, 114, 105, 112, 116, 58, 32, 102, 40, 41]⟩] w fun e w' =>
    e = .returned (.tuple #[.agg #[.bool true, .string ⟨#[106, 97, 118, 97, 115, 99, 114, 105, 112, 116]⟩, .string ⟨#[]⟩, .int .i64 0, .string ⟨#[102, 40, 41]⟩, .string ⟨#[]⟩], .int .i64 0]) ∧ Reach w w' := by
  have h := parse_calls [106, 97, 118, 97, 115, 99, 114, 105, 112, 116, 58, 32, 102, 40, 41] w (by decide) hE
  rw [show parseU [106, 97, 118, 97, 115, 99, 114, 105, 112, 116, 58, 32, 102, 40, 41] = ⟨true, [106, 97, 118, 97, 115, 99, 114, 105, 112, 116], [], 0, [102, 40, 41], []⟩ by decide +kernel, show parseE [106, 97, 118, 97, 115, 99, 114, 105, 112, 116, 58, 32, 102, 40, 41] = 0 by decide +kernel] at h
  exact h
theorem parsed2 (w : World) (hE : Env w) : Calls Tryz.prog 21 #[.string ⟨#[104, 116, 116, 112, 115, 58, 47, 47, 97, 58, 52, 52, 52]⟩] w fun e w' =>
    e = .returned (.tuple #[.agg #[.bool false, .string ⟨#[104, 116, 116, 112, 115]⟩, .string ⟨#[97]⟩, .int .i64 444, .string ⟨#[47]⟩, .string ⟨#[]⟩], .int .i64 0]) ∧ Reach w w' := by
  have h := parse_calls [104, 116, 116, 112, 115, 58, 47, 47, 97, 58, 52, 52, 52] w (by decide) hE
  rw [show parseU [104, 116, 116, 112, 115, 58, 47, 47, 97, 58, 52, 52, 52] = ⟨false, [104, 116, 116, 112, 115], [97], 444, [47], []⟩ by decide +kernel, show parseE [104, 116, 116, 112, 115, 58, 47, 47, 97, 58, 52, 52, 52] = 0 by decide +kernel] at h
  exact h
theorem parsed3 (w : World) (hE : Env w) : Calls Tryz.prog 21 #[.string ⟨#[104, 116, 116, 112, 58, 47, 97]⟩] w fun e w' =>
    e = .returned (.tuple #[.agg #[.bool false, .string ⟨#[]⟩, .string ⟨#[]⟩, .int .i64 0, .string ⟨#[]⟩, .string ⟨#[]⟩], .int .i64 50]) ∧ Reach w w' := by
  have h := parse_calls [104, 116, 116, 112, 58, 47, 97] w (by decide) hE
  rw [show parseU [104, 116, 116, 112, 58, 47, 97] = ⟨false, [], [], 0, [], []⟩ by decide +kernel, show parseE [104, 116, 116, 112, 58, 47, 97] = 50 by decide +kernel] at h
  exact h
theorem parsed4 (w : World) (hE : Env w) : Calls Tryz.prog 21 #[.string ⟨#[104, 116, 116, 112, 58, 47, 47, 97, 46, 46, 98, 47]⟩] w fun e w' =>
    e = .returned (.tuple #[.agg #[.bool false, .string ⟨#[]⟩, .string ⟨#[]⟩, .int .i64 0, .string ⟨#[]⟩, .string ⟨#[]⟩], .int .i64 50]) ∧ Reach w w' := by
  have h := parse_calls [104, 116, 116, 112, 58, 47, 47, 97, 46, 46, 98, 47] w (by decide) hE
  rw [show parseU [104, 116, 116, 112, 58, 47, 47, 97, 46, 46, 98, 47] = ⟨false, [], [], 0, [], []⟩ by decide +kernel, show parseE [104, 116, 116, 112, 58, 47, 47, 97, 46, 46, 98, 47] = 50 by decide +kernel] at h
  exact h
theorem printedA (w : World) (hE : Env w) : Calls Tryz.prog 25 #[.agg #[.bool false, .string ⟨#[104, 116, 116, 112]⟩, .string ⟨#[97, 46, 98]⟩, .int .i64 0, .string ⟨#[47, 120, 47, 122]⟩, .string ⟨#[63, 113]⟩]] w fun e w' => e = .returned (.tuple #[.string ⟨#[104, 116, 116, 112, 58, 47, 47, 97, 46, 98, 47, 120, 47, 122, 63, 113]⟩, .int .i64 0]) ∧ Reach w w' := by
  have h := print_calls false [104, 116, 116, 112] [97, 46, 98] 0 [47, 120, 47, 122] [63, 113] w (by decide) (by decide) (by decide) (by decide) (by decide) (by decide) hE
  rw [show printL ⟨false, [104, 116, 116, 112], [97, 46, 98], 0, [47, 120, 47, 122], [63, 113]⟩ = [104, 116, 116, 112, 58, 47, 47, 97, 46, 98, 47, 120, 47, 122, 63, 113] by decide +kernel, show checkE ⟨false, [104, 116, 116, 112], [97, 46, 98], 0, [47, 120, 47, 122], [63, 113]⟩ = 0 by decide +kernel] at h
  exact h
theorem checkedA (w : World) (hE : Env w) : Calls Tryz.prog 27 #[.agg #[.bool false, .string ⟨#[104, 116, 116, 112]⟩, .string ⟨#[97, 46, 98]⟩, .int .i64 0, .string ⟨#[47, 120, 47, 122]⟩, .string ⟨#[63, 113]⟩]] w fun e w' => e = .returned (.int .i64 0) ∧ Reach w w' := by
  have h := check_calls false [104, 116, 116, 112] [97, 46, 98] 0 [47, 120, 47, 122] [63, 113] w (by decide) (by decide) (by decide) (by decide) (by decide) (by decide) hE
  rw [show checkE ⟨false, [104, 116, 116, 112], [97, 46, 98], 0, [47, 120, 47, 122], [63, 113]⟩ = 0 by decide +kernel] at h
  exact h
theorem checkedZ (w : World) (hE : Env w) : Calls Tryz.prog 27 #[.agg #[.bool false, .string ⟨#[]⟩, .string ⟨#[]⟩, .int .i64 0, .string ⟨#[]⟩, .string ⟨#[]⟩]] w fun e w' => e = .returned (.int .i64 50) ∧ Reach w w' := by
  have h := check_calls false [] [] 0 [] [] w (by decide) (by decide) (by decide) (by decide) (by decide) (by decide) hE
  rw [show checkE ⟨false, [], [], 0, [], []⟩ = 50 by decide +kernel] at h
  exact h
theorem cleanedA (w : World) (hE : Env w) : Calls Tryz.prog 65 #[.string ⟨#[47, 97, 47, 46, 46]⟩] w fun e w' => e = .returned (.string ⟨#[47]⟩) ∧ Reach w w' := by
  have h := clean_calls [47, 97, 47, 46, 46] w (by decide) hE
  rw [show cleanL [47, 97, 47, 46, 46] = [47] by decide +kernel] at h
  exact h
theorem defaultW (w : World) : Calls Tryz.prog 58 #[.string ⟨#[119, 115]⟩] w fun e w' => e = .returned (.int .i64 80) ∧ w = w' := by
  have h := default_calls [119, 115] w
  rw [show defPort [119, 115] = 80 by decide +kernel] at h
  exact h

set_option maxRecDepth 100000 in
set_option maxHeartbeats 4000000 in
theorem parses_calls (w : World) (hE : Env w) : Calls Tryz.prog 23 #[] w fun e w' => e = .returned (.bool true) ∧ Reach w w' := by
  have HE := Lib.hid hE
  clear hE
  go_enter Tryz.func23, Tryz.ntmps23
  have Q0 := Reach.refl w
  go_wp2_with fail
  refine Calls.mono (parsed0 _ (Env.reach HE.out Q0)) ?_
  rintro e W0 ⟨rfl, hr⟩
  have N0 := Blk.new W0 #[.bool false, .string ⟨#[104, 116, 116, 112]⟩, .string ⟨#[97, 46, 98]⟩, .int .i64 0, .string ⟨#[47, 120, 47, 122]⟩, .string ⟨#[63, 113]⟩] 23
  have Q1 := Reach.alloc (Reach.trans Q0 hr) (.cells #[.bool false, .string ⟨#[104, 116, 116, 112]⟩, .string ⟨#[97, 46, 98]⟩, .int .i64 0, .string ⟨#[47, 120, 47, 122]⟩, .string ⟨#[63, 113]⟩] 23)
  clear hr Q0
  have B0 := N0
  clear N0
  go_wp2_with fail
  generalize W0.alloc (.cells #[.bool false, .string ⟨#[104, 116, 116, 112]⟩, .string ⟨#[97, 46, 98]⟩, .int .i64 0, .string ⟨#[47, 120, 47, 122]⟩, .string ⟨#[63, 113]⟩] 23) = X0 at B0 Q1 ⊢
  generalize W0.heap.size = n0 at *
  go_wp2_with fail
  refine Calls.mono (parsed1 _ (Env.reach HE.out Q1)) ?_
  rintro e W1 ⟨rfl, hr⟩
  replace B0 := Blk.reach B0 hr
  have N1 := Blk.new W1 #[.bool true, .string ⟨#[106, 97, 118, 97, 115, 99, 114, 105, 112, 116]⟩, .string ⟨#[]⟩, .int .i64 0, .string ⟨#[102, 40, 41]⟩, .string ⟨#[]⟩] 23
  have Q2 := Reach.alloc (Reach.trans Q1 hr) (.cells #[.bool true, .string ⟨#[106, 97, 118, 97, 115, 99, 114, 105, 112, 116]⟩, .string ⟨#[]⟩, .int .i64 0, .string ⟨#[102, 40, 41]⟩, .string ⟨#[]⟩] 23)
  replace B0 := Blk.reach B0 (Reach.alloc (Reach.refl _) (.cells #[.bool true, .string ⟨#[106, 97, 118, 97, 115, 99, 114, 105, 112, 116]⟩, .string ⟨#[]⟩, .int .i64 0, .string ⟨#[102, 40, 41]⟩, .string ⟨#[]⟩] 23))
  clear hr Q1
  have B1 := N1
  clear N1
  go_wp2_with fail
  generalize W1.alloc (.cells #[.bool true, .string ⟨#[106, 97, 118, 97, 115, 99, 114, 105, 112, 116]⟩, .string ⟨#[]⟩, .int .i64 0, .string ⟨#[102, 40, 41]⟩, .string ⟨#[]⟩] 23) = X1 at B0 B1 Q2 ⊢
  generalize W1.heap.size = n1 at *
  go_wp2_with fail
  refine Calls.mono (parsed2 _ (Env.reach HE.out Q2)) ?_
  rintro e W2 ⟨rfl, hr⟩
  replace B0 := Blk.reach B0 hr
  replace B1 := Blk.reach B1 hr
  have N2 := Blk.new W2 #[.bool false, .string ⟨#[104, 116, 116, 112, 115]⟩, .string ⟨#[97]⟩, .int .i64 444, .string ⟨#[47]⟩, .string ⟨#[]⟩] 23
  have Q3 := Reach.alloc (Reach.trans Q2 hr) (.cells #[.bool false, .string ⟨#[104, 116, 116, 112, 115]⟩, .string ⟨#[97]⟩, .int .i64 444, .string ⟨#[47]⟩, .string ⟨#[]⟩] 23)
  replace B0 := Blk.reach B0 (Reach.alloc (Reach.refl _) (.cells #[.bool false, .string ⟨#[104, 116, 116, 112, 115]⟩, .string ⟨#[97]⟩, .int .i64 444, .string ⟨#[47]⟩, .string ⟨#[]⟩] 23))
  replace B1 := Blk.reach B1 (Reach.alloc (Reach.refl _) (.cells #[.bool false, .string ⟨#[104, 116, 116, 112, 115]⟩, .string ⟨#[97]⟩, .int .i64 444, .string ⟨#[47]⟩, .string ⟨#[]⟩] 23))
  clear hr Q2
  have B2 := N2
  clear N2
  go_wp2_with fail
  generalize W2.alloc (.cells #[.bool false, .string ⟨#[104, 116, 116, 112, 115]⟩, .string ⟨#[97]⟩, .int .i64 444, .string ⟨#[47]⟩, .string ⟨#[]⟩] 23) = X2 at B0 B1 B2 Q3 ⊢
  generalize W2.heap.size = n2 at *
  go_wp2_with fail
  refine Calls.mono (parsed3 _ (Env.reach HE.out Q3)) ?_
  rintro e W3 ⟨rfl, hr⟩
  replace B0 := Blk.reach B0 hr
  replace B1 := Blk.reach B1 hr
  replace B2 := Blk.reach B2 hr
  have N3 := Blk.new W3 #[.bool false, .string ⟨#[]⟩, .string ⟨#[]⟩, .int .i64 0, .string ⟨#[]⟩, .string ⟨#[]⟩] 23
  have Q4 := Reach.alloc (Reach.trans Q3 hr) (.cells #[.bool false, .string ⟨#[]⟩, .string ⟨#[]⟩, .int .i64 0, .string ⟨#[]⟩, .string ⟨#[]⟩] 23)
  replace B0 := Blk.reach B0 (Reach.alloc (Reach.refl _) (.cells #[.bool false, .string ⟨#[]⟩, .string ⟨#[]⟩, .int .i64 0, .string ⟨#[]⟩, .string ⟨#[]⟩] 23))
  replace B1 := Blk.reach B1 (Reach.alloc (Reach.refl _) (.cells #[.bool false, .string ⟨#[]⟩, .string ⟨#[]⟩, .int .i64 0, .string ⟨#[]⟩, .string ⟨#[]⟩] 23))
  replace B2 := Blk.reach B2 (Reach.alloc (Reach.refl _) (.cells #[.bool false, .string ⟨#[]⟩, .string ⟨#[]⟩, .int .i64 0, .string ⟨#[]⟩, .string ⟨#[]⟩] 23))
  clear hr Q3
  clear N3
  go_wp2_with fail
  generalize W3.alloc (.cells #[.bool false, .string ⟨#[]⟩, .string ⟨#[]⟩, .int .i64 0, .string ⟨#[]⟩, .string ⟨#[]⟩] 23) = X3 at B0 B1 B2 Q4 ⊢
  generalize W3.heap.size = n3 at *
  go_wp2_with fail
  refine Calls.mono (parsed4 _ (Env.reach HE.out Q4)) ?_
  rintro e W4 ⟨rfl, hr⟩
  replace B0 := Blk.reach B0 hr
  replace B1 := Blk.reach B1 hr
  replace B2 := Blk.reach B2 hr
  have N4 := Blk.new W4 #[.bool false, .string ⟨#[]⟩, .string ⟨#[]⟩, .int .i64 0, .string ⟨#[]⟩, .string ⟨#[]⟩] 23
  have Q5 := Reach.alloc (Reach.trans Q4 hr) (.cells #[.bool false, .string ⟨#[]⟩, .string ⟨#[]⟩, .int .i64 0, .string ⟨#[]⟩, .string ⟨#[]⟩] 23)
  replace B0 := Blk.reach B0 (Reach.alloc (Reach.refl _) (.cells #[.bool false, .string ⟨#[]⟩, .string ⟨#[]⟩, .int .i64 0, .string ⟨#[]⟩, .string ⟨#[]⟩] 23))
  replace B1 := Blk.reach B1 (Reach.alloc (Reach.refl _) (.cells #[.bool false, .string ⟨#[]⟩, .string ⟨#[]⟩, .int .i64 0, .string ⟨#[]⟩, .string ⟨#[]⟩] 23))
  replace B2 := Blk.reach B2 (Reach.alloc (Reach.refl _) (.cells #[.bool false, .string ⟨#[]⟩, .string ⟨#[]⟩, .int .i64 0, .string ⟨#[]⟩, .string ⟨#[]⟩] 23))
  clear hr Q4
  clear N4
  obtain ⟨a0, a1, a2, a3, a4, a5⟩ := B0.six
  go_wp2_with fail
  generalize W4.alloc (.cells #[.bool false, .string ⟨#[]⟩, .string ⟨#[]⟩, .int .i64 0, .string ⟨#[]⟩, .string ⟨#[]⟩] 23) = X4 at B0 B1 B2 Q5 ⊢
  generalize W4.heap.size = n4 at *
  clear a0 a1 a2 a3 a4 a5
  refine Calls.mono (printedA _ (Env.reach HE.out Q5)) ?_
  rintro e Y ⟨rfl, hr⟩
  have Q6 := Reach.trans Q5 hr
  obtain ⟨a0, a1, a2, a3, a4, a5⟩ := (B0.reach hr).six
  obtain ⟨b0, b1, b2, b3, b4, b5⟩ := (B1.reach hr).six
  obtain ⟨c0, c1, c2, c3, c4, c5⟩ := (B2.reach hr).six
  clear hr
  go_wp2_with fail
  refine Calls.mono (checkedA _ (Env.reach HE.out Q6)) ?_
  rintro e Y1 ⟨rfl, hr⟩
  have Q7 := Reach.trans Q6 hr
  clear hr a0 a1 a2 a3 a4 a5 b0 b1 b2 b3 b4 b5 c0 c1 c2 c3 c4 c5
  go_wp2_with fail
  refine Calls.mono (checkedZ _ (Env.reach HE.out Q7)) ?_
  rintro e Y2 ⟨rfl, hr⟩
  have Q8 := Reach.trans Q7 hr
  clear hr
  go_wp2_with fail
  refine Calls.mono (cleanedA _ (Env.reach HE.out Q8)) ?_
  rintro e Y3 ⟨rfl, hr⟩
  have Q9 := Reach.trans Q8 hr
  clear hr
  go_wp2_with fail
  refine Calls.mono (defaultW _) ?_
  rintro e Y4 ⟨rfl, rfl⟩
  go_wp2_with fail
  go_ret
  exact ⟨rfl, Q9⟩
end Go.Proofs.YtbpijmmhgdemlaaGreatDoor
