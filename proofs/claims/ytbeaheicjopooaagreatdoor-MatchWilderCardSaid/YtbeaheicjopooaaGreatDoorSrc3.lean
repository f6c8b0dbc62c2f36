/- What package source's cutter makes of the words of the examples. -/
import Derived.Test.YtbeaheicjopooaaGreatDoorProg
import Derived.Test.YtbeaheicjopooaaGreatDoorSrc2
import Derived.Laws.Rows
import Derived.RegionTactic
namespace Go.Proofs.YtbeaheicjopooaaGreatDoor
open Go.RowKit Go.Sort
attribute [local go_sem] get_mk mk_append mk_extract0 mk_extract_end mk_extract_cons empty_mk cell_grow frozen_grow size_grow
attribute [local go_sem] mk_extract
theorem cutL_calls (l m : List UInt8) (w : World) (hs : l.length ≤ 1000000) (hE : Env w) :
    Calls Tryz.prog 34 #[.string ⟨l.toArray⟩, .string ⟨m.toArray⟩] w fun e w' => e = .returned (.tuple #[.string ⟨(Lib.cut l m).1.toArray⟩, .string ⟨(Lib.cut l m).2.1.toArray⟩, .bool (Lib.cut l m).2.2]) ∧ Reach w w' := by
  obtain ⟨x, hx⟩ := hE.maxl
  refine (Tryz.strings_Cut ⟨l.toArray⟩ ⟨m.toArray⟩ x w (by show l.length < _; omega) hx).mono fun e w' ⟨he, n, hw⟩ => ⟨he, ?_⟩
  rw [hw]
  exact Reach.drewN (Reach.refl w) n
theorem idxL_calls (l : List UInt8) (c : UInt8) (w : World) : Calls Tryz.prog 140 #[.string ⟨l.toArray⟩, .int .u8 c.toNat] w fun e w' => e = .returned (.int .i64 (Lib.indexByte l c)) ∧ w = w' := by
  refine (Tryz.strings_IndexByte ⟨l.toArray⟩ c.toNat w).mono fun e w' ⟨he, hw⟩ => ⟨?_, hw.symm⟩
  rw [he]
  have : ((c.toNat : Int).toNat.toUInt8) = c := by simp
  rw [this]
set_option maxRecDepth 100000 in
set_option maxHeartbeats 4000000 in
theorem chost1_calls (B : Nat) (w : World) (BC : Blk w B #[.int .i64 0, .string ⟨#[]⟩, .string ⟨#[]⟩, .string ⟨#[]⟩, .bool false, .int .i64 0, .string ⟨#[]⟩, .string ⟨#[42, 46, 97, 46, 98]⟩] 99) (hE : Env w) (HNG : NG ≤ B) :
    Calls Tryz.prog 122 #[.pointer (some ⟨B, 0, none⟩)] w fun e w' => e = .returned (.bool true) ∧ Keep B w w' ∧ Blk w' B #[.int .i64 12, .string ⟨#[]⟩, .string ⟨#[]⟩, .string ⟨#[97, 46, 98]⟩, .bool true, .int .i64 0, .string ⟨#[]⟩, .string ⟨#[42, 46, 97, 46, 98]⟩] 99 := by
  have h1 := fun W (hE : Env W) => cutL_calls [42, 46, 97, 46, 98] [58, 47, 47] W (by decide) hE
  rw [show Lib.cut [42, 46, 97, 46, 98] [58, 47, 47] = ([42, 46, 97, 46, 98], [], false) by decide +kernel] at h1
  have h2 := fun W (hE : Env W) => cutL_calls [42, 46, 97, 46, 98] [58] W (by decide) hE
  rw [show Lib.cut [42, 46, 97, 46, 98] [58] = ([42, 46, 97, 46, 98], [], false) by decide +kernel] at h2
  have h3 : ∀ W : World, Calls Tryz.prog 140 #[.string ⟨#[42, 46, 97, 46, 98]⟩, .int .u8 47] W fun e w' => e = .returned (.int .i64 (Lib.indexByte [42, 46, 97, 46, 98] 47)) ∧ W = w' := fun W => idxL_calls _ 47 W
  rw [show Lib.indexByte [42, 46, 97, 46, 98] 47 = -1 by decide +kernel] at h3
  have h4 := fun W => lower_calls [42, 46, 97, 46, 98] W (by decide)
  rw [show lowerL [42, 46, 97, 46, 98] = [42, 46, 97, 46, 98] by decide +kernel] at h4
  have h5 := fun W => cutPre_calls [42, 46, 97, 46, 98] [42, 46] W
  rw [show Lib.trimPrefix [42, 46, 97, 46, 98] [42, 46] = [97, 46, 98] by decide +kernel, show Lib.hasPrefix [42, 46, 97, 46, 98] [42, 46] = true by decide +kernel] at h5
  have H1 := Lib.hid h1
  have H2 := Lib.hid h2
  have HI := Lib.hid h3
  have H4 := Lib.hid h4
  have HCP := Lib.hid h5
  have HE := Lib.hid hE
  clear h1 h2 h3 h4 h5 hE
  go_enter Tryz.func122, Tryz.ntmps122
  have K := Keep.refl B w
  obtain ⟨⟨x0_0, x0_1, x0_2, x0_3, x0_4, x0_5, x0_6, x0_7⟩, y0_0, y0_1, y0_2, y0_3, y0_4, y0_5, y0_6, y0_7⟩ := BC.eightf
  have xl0 := BC.lt
  go_wp2_with fail
  clear x0_0 x0_1 x0_2 x0_3 x0_4 x0_5 x0_6 x0_7 y0_0 y0_1 y0_2 y0_3 y0_4 y0_5 y0_6 y0_7 xl0
  replace BC := (BC.put 0 (.int .i64 12))
  replace K := Keep.setCell K ⟨B, 0, none⟩ (by first | exact .inl rfl | exact .inr (by first | (simp; done) | (simp; omega))) (.int .i64 12)
  generalize w.setCell ⟨B, 0, none⟩ (.int .i64 12) = W1 at K BC ⊢
  (with_reducible refine Calls.mono (H1.out _ (Env.keep HE.out K HNG)) ?_)
  rintro e W2 ⟨rfl, hr⟩
  replace BC := BC.reach hr
  replace K := Keep.reach K hr
  clear hr
  obtain ⟨⟨x0_0, x0_1, x0_2, x0_3, x0_4, x0_5, x0_6, x0_7⟩, y0_0, y0_1, y0_2, y0_3, y0_4, y0_5, y0_6, y0_7⟩ := BC.eightf
  have xl0 := BC.lt
  go_wp2_with (first | (go_at_call 140; (with_reducible refine Calls.mono (HI.out _) ?_); rintro e w' ⟨rfl, rfl⟩))
  clear x0_0 x0_1 x0_2 x0_3 x0_4 x0_5 x0_6 x0_7 y0_0 y0_1 y0_2 y0_3 y0_4 y0_5 y0_6 y0_7 xl0
  (with_reducible refine Calls.mono (H2.out _ (Env.keep HE.out K HNG)) ?_)
  rintro e W3 ⟨rfl, hr⟩
  replace BC := BC.reach hr
  replace K := Keep.reach K hr
  clear hr
  obtain ⟨⟨x0_0, x0_1, x0_2, x0_3, x0_4, x0_5, x0_6, x0_7⟩, y0_0, y0_1, y0_2, y0_3, y0_4, y0_5, y0_6, y0_7⟩ := BC.eightf
  have xl0 := BC.lt
  go_wp2_with fail
  clear x0_0 x0_1 x0_2 x0_3 x0_4 x0_5 x0_6 x0_7 y0_0 y0_1 y0_2 y0_3 y0_4 y0_5 y0_6 y0_7 xl0
  (with_reducible refine Calls.mono (H4.out _) ?_)
  rintro e W4 ⟨rfl, hr⟩
  replace BC := BC.reach hr
  replace K := Keep.reach K hr
  clear hr
  obtain ⟨⟨x0_0, x0_1, x0_2, x0_3, x0_4, x0_5, x0_6, x0_7⟩, y0_0, y0_1, y0_2, y0_3, y0_4, y0_5, y0_6, y0_7⟩ := BC.eightf
  have xl0 := BC.lt
  go_wp2_with (first | (go_at_call 142; (with_reducible refine Calls.mono (HCP.out _) ?_); rintro e w' ⟨rfl, rfl⟩))
  clear x0_0 x0_1 x0_2 x0_3 x0_4 x0_5 x0_6 x0_7 y0_0 y0_1 y0_2 y0_3 y0_4 y0_5 y0_6 y0_7 xl0
  replace BC := (BC.put 3 (.string ⟨#[42, 46, 97, 46, 98]⟩))
  replace K := Keep.setCell K ⟨B, 3, none⟩ (by first | exact .inl rfl | exact .inr (by first | (simp; done) | (simp; omega))) (.string ⟨#[42, 46, 97, 46, 98]⟩)
  replace BC := (BC.put 4 (.bool true))
  replace K := Keep.setCell K ⟨B, 4, none⟩ (by first | exact .inl rfl | exact .inr (by first | (simp; done) | (simp; omega))) (.bool true)
  replace BC := (BC.put 3 (.string ⟨#[97, 46, 98]⟩))
  replace K := Keep.setCell K ⟨B, 3, none⟩ (by first | exact .inl rfl | exact .inr (by first | (simp; done) | (simp; omega))) (.string ⟨#[97, 46, 98]⟩)
  generalize ((W4.setCell ⟨B, 3, none⟩ (.string ⟨#[42, 46, 97, 46, 98]⟩)).setCell ⟨B, 4, none⟩ (.bool true)).setCell ⟨B, 3, none⟩ (.string ⟨#[97, 46, 98]⟩) = W5 at K BC ⊢
  go_ret
  exact ⟨rfl, K, BC⟩
set_option maxRecDepth 100000 in
set_option maxHeartbeats 4000000 in
theorem chost2_calls (B : Nat) (w : World) (BC : Blk w B #[.int .i64 0, .string ⟨#[]⟩, .string ⟨#[]⟩, .string ⟨#[]⟩, .bool false, .int .i64 0, .string ⟨#[]⟩, .string ⟨#[97, 47, 120, 47]⟩] 99) (hE : Env w) (HNG : NG ≤ B) :
    Calls Tryz.prog 122 #[.pointer (some ⟨B, 0, none⟩)] w fun e w' => e = .returned (.bool true) ∧ Keep B w w' ∧ Blk w' B #[.int .i64 12, .string ⟨#[]⟩, .string ⟨#[]⟩, .string ⟨#[97]⟩, .bool false, .int .i64 0, .string ⟨#[47, 120, 47]⟩, .string ⟨#[97]⟩] 99 := by
  have h1 := fun W (hE : Env W) => cutL_calls [97, 47, 120, 47] [58, 47, 47] W (by decide) hE
  rw [show Lib.cut [97, 47, 120, 47] [58, 47, 47] = ([97, 47, 120, 47], [], false) by decide +kernel] at h1
  have h2 := fun W (hE : Env W) => cutL_calls [97] [58] W (by decide) hE
  rw [show Lib.cut [97] [58] = ([97], [], false) by decide +kernel] at h2
  have h3 : ∀ W : World, Calls Tryz.prog 140 #[.string ⟨#[97, 47, 120, 47]⟩, .int .u8 47] W fun e w' => e = .returned (.int .i64 (Lib.indexByte [97, 47, 120, 47] 47)) ∧ W = w' := fun W => idxL_calls _ 47 W
  rw [show Lib.indexByte [97, 47, 120, 47] 47 = 1 by decide +kernel] at h3
  have h4 := fun W => lower_calls [97] W (by decide)
  rw [show lowerL [97] = [97] by decide +kernel] at h4
  have h5 := fun W => cutPre_calls [97] [42, 46] W
  rw [show Lib.trimPrefix [97] [42, 46] = [97] by decide +kernel, show Lib.hasPrefix [97] [42, 46] = false by decide +kernel] at h5
  have H1 := Lib.hid h1
  have H2 := Lib.hid h2
  have HI := Lib.hid h3
  have H4 := Lib.hid h4
  have HCP := Lib.hid h5
  have HE := Lib.hid hE
  clear h1 h2 h3 h4 h5 hE
  go_enter Tryz.func122, Tryz.ntmps122
  have K := Keep.refl B w
  obtain ⟨⟨x0_0, x0_1, x0_2, x0_3, x0_4, x0_5, x0_6, x0_7⟩, y0_0, y0_1, y0_2, y0_3, y0_4, y0_5, y0_6, y0_7⟩ := BC.eightf
  have xl0 := BC.lt
  go_wp2_with fail
  clear x0_0 x0_1 x0_2 x0_3 x0_4 x0_5 x0_6 x0_7 y0_0 y0_1 y0_2 y0_3 y0_4 y0_5 y0_6 y0_7 xl0
  replace BC := (BC.put 0 (.int .i64 12))
  replace K := Keep.setCell K ⟨B, 0, none⟩ (by first | exact .inl rfl | exact .inr (by first | (simp; done) | (simp; omega))) (.int .i64 12)
  generalize w.setCell ⟨B, 0, none⟩ (.int .i64 12) = W1 at K BC ⊢
  (with_reducible refine Calls.mono (H1.out _ (Env.keep HE.out K HNG)) ?_)
  rintro e W2 ⟨rfl, hr⟩
  replace BC := BC.reach hr
  replace K := Keep.reach K hr
  clear hr
  obtain ⟨⟨x0, x1, x2, x3, x4, x5, x6, x7⟩, y0, y1, y2, y3, y4, y5, y6, y7⟩ := BC.eightf
  have xl := BC.lt
  go_wp2_with (first | (go_at_call 140; (with_reducible refine Calls.mono (HI.out _) ?_); rintro e w' ⟨rfl, rfl⟩))
  go_region
  replace BC := ((BC.put 7 (.string ⟨#[97]⟩)).put 6 (.string ⟨#[47, 120, 47]⟩)).reach (Reach.drew (Reach.refl _))
  replace K := Keep.reach (Keep.setCell (Keep.setCell K ⟨B, 7, none⟩ (.inl rfl) (.string ⟨#[97]⟩)) ⟨B, 6, none⟩ (.inl rfl) (.string ⟨#[47, 120, 47]⟩)) (Reach.drew (Reach.refl _))
  clear x0 x1 x2 x3 x4 x5 x6 x7 y0 y1 y2 y3 y4 y5 y6 y7 xl
  generalize World.drew ((W2.setCell ⟨B, 7, none⟩ (.string ⟨#[97]⟩)).setCell ⟨B, 6, none⟩ (.string ⟨#[47, 120, 47]⟩)) = W2 at BC K ⊢
  obtain ⟨⟨x0_0, x0_1, x0_2, x0_3, x0_4, x0_5, x0_6, x0_7⟩, y0_0, y0_1, y0_2, y0_3, y0_4, y0_5, y0_6, y0_7⟩ := BC.eightf
  have xl0 := BC.lt
  go_wp2_with fail
  clear x0_0 x0_1 x0_2 x0_3 x0_4 x0_5 x0_6 x0_7 y0_0 y0_1 y0_2 y0_3 y0_4 y0_5 y0_6 y0_7 xl0
  (with_reducible refine Calls.mono (H2.out _ (Env.keep HE.out K HNG)) ?_)
  rintro e W3 ⟨rfl, hr⟩
  replace BC := BC.reach hr
  replace K := Keep.reach K hr
  clear hr
  obtain ⟨⟨x0_0, x0_1, x0_2, x0_3, x0_4, x0_5, x0_6, x0_7⟩, y0_0, y0_1, y0_2, y0_3, y0_4, y0_5, y0_6, y0_7⟩ := BC.eightf
  have xl0 := BC.lt
  go_wp2_with fail
  clear x0_0 x0_1 x0_2 x0_3 x0_4 x0_5 x0_6 x0_7 y0_0 y0_1 y0_2 y0_3 y0_4 y0_5 y0_6 y0_7 xl0
  (with_reducible refine Calls.mono (H4.out _) ?_)
  rintro e W4 ⟨rfl, hr⟩
  replace BC := BC.reach hr
  replace K := Keep.reach K hr
  clear hr
  obtain ⟨⟨x0_0, x0_1, x0_2, x0_3, x0_4, x0_5, x0_6, x0_7⟩, y0_0, y0_1, y0_2, y0_3, y0_4, y0_5, y0_6, y0_7⟩ := BC.eightf
  have xl0 := BC.lt
  go_wp2_with (first | (go_at_call 142; (with_reducible refine Calls.mono (HCP.out _) ?_); rintro e w' ⟨rfl, rfl⟩))
  clear x0_0 x0_1 x0_2 x0_3 x0_4 x0_5 x0_6 x0_7 y0_0 y0_1 y0_2 y0_3 y0_4 y0_5 y0_6 y0_7 xl0
  replace BC := (BC.put 3 (.string ⟨#[97]⟩))
  replace K := Keep.setCell K ⟨B, 3, none⟩ (by first | exact .inl rfl | exact .inr (by first | (simp; done) | (simp; omega))) (.string ⟨#[97]⟩)
  generalize W4.setCell ⟨B, 3, none⟩ (.string ⟨#[97]⟩) = W5 at K BC ⊢
  go_ret
  exact ⟨rfl, K, BC⟩
set_option maxRecDepth 100000 in
set_option maxHeartbeats 4000000 in
theorem chost3_calls (B : Nat) (w : World) (BC : Blk w B #[.int .i64 0, .string ⟨#[]⟩, .string ⟨#[]⟩, .string ⟨#[]⟩, .bool false, .int .i64 0, .string ⟨#[]⟩, .string ⟨#[97, 47, 120]⟩] 99) (hE : Env w) (HNG : NG ≤ B) :
    Calls Tryz.prog 122 #[.pointer (some ⟨B, 0, none⟩)] w fun e w' => e = .returned (.bool true) ∧ Keep B w w' ∧ Blk w' B #[.int .i64 12, .string ⟨#[]⟩, .string ⟨#[]⟩, .string ⟨#[97]⟩, .bool false, .int .i64 0, .string ⟨#[47, 120]⟩, .string ⟨#[97]⟩] 99 := by
  have h1 := fun W (hE : Env W) => cutL_calls [97, 47, 120] [58, 47, 47] W (by decide) hE
  rw [show Lib.cut [97, 47, 120] [58, 47, 47] = ([97, 47, 120], [], false) by decide +kernel] at h1
  have h2 := fun W (hE : Env W) => cutL_calls [97] [58] W (by decide) hE
  rw [show Lib.cut [97] [58] = ([97], [], false) by decide +kernel] at h2
  have h3 : ∀ W : World, Calls Tryz.prog 140 #[.string ⟨#[97, 47, 120]⟩, .int .u8 47] W fun e w' => e = .returned (.int .i64 (Lib.indexByte [97, 47, 120] 47)) ∧ W = w' := fun W => idxL_calls _ 47 W
  rw [show Lib.indexByte [97, 47, 120] 47 = 1 by decide +kernel] at h3
  have h4 := fun W => lower_calls [97] W (by decide)
  rw [show lowerL [97] = [97] by decide +kernel] at h4
  have h5 := fun W => cutPre_calls [97] [42, 46] W
  rw [show Lib.trimPrefix [97] [42, 46] = [97] by decide +kernel, show Lib.hasPrefix [97] [42, 46] = false by decide +kernel] at h5
  have H1 := Lib.hid h1
  have H2 := Lib.hid h2
  have HI := Lib.hid h3
  have H4 := Lib.hid h4
  have HCP := Lib.hid h5
  have HE := Lib.hid hE
  clear h1 h2 h3 h4 h5 hE
  go_enter Tryz.func122, Tryz.ntmps122
  have K := Keep.refl B w
  obtain ⟨⟨x0_0, x0_1, x0_2, x0_3, x0_4, x0_5, x0_6, x0_7⟩, y0_0, y0_1, y0_2, y0_3, y0_4, y0_5, y0_6, y0_7⟩ := BC.eightf
  have xl0 := BC.lt
  go_wp2_with fail
  clear x0_0 x0_1 x0_2 x0_3 x0_4 x0_5 x0_6 x0_7 y0_0 y0_1 y0_2 y0_3 y0_4 y0_5 y0_6 y0_7 xl0
  replace BC := (BC.put 0 (.int .i64 12))
  replace K := Keep.setCell K ⟨B, 0, none⟩ (by first | exact .inl rfl | exact .inr (by first | (simp; done) | (simp; omega))) (.int .i64 12)
  generalize w.setCell ⟨B, 0, none⟩ (.int .i64 12) = W1 at K BC ⊢
  (with_reducible refine Calls.mono (H1.out _ (Env.keep HE.out K HNG)) ?_)
  rintro e W2 ⟨rfl, hr⟩
  replace BC := BC.reach hr
  replace K := Keep.reach K hr
  clear hr
  obtain ⟨⟨x0, x1, x2, x3, x4, x5, x6, x7⟩, y0, y1, y2, y3, y4, y5, y6, y7⟩ := BC.eightf
  have xl := BC.lt
  go_wp2_with (first | (go_at_call 140; (with_reducible refine Calls.mono (HI.out _) ?_); rintro e w' ⟨rfl, rfl⟩))
  go_region
  replace BC := ((BC.put 7 (.string ⟨#[97]⟩)).put 6 (.string ⟨#[47, 120]⟩)).reach (Reach.drew (Reach.refl _))
  replace K := Keep.reach (Keep.setCell (Keep.setCell K ⟨B, 7, none⟩ (.inl rfl) (.string ⟨#[97]⟩)) ⟨B, 6, none⟩ (.inl rfl) (.string ⟨#[47, 120]⟩)) (Reach.drew (Reach.refl _))
  clear x0 x1 x2 x3 x4 x5 x6 x7 y0 y1 y2 y3 y4 y5 y6 y7 xl
  generalize World.drew ((W2.setCell ⟨B, 7, none⟩ (.string ⟨#[97]⟩)).setCell ⟨B, 6, none⟩ (.string ⟨#[47, 120]⟩)) = W2 at BC K ⊢
  obtain ⟨⟨x0_0, x0_1, x0_2, x0_3, x0_4, x0_5, x0_6, x0_7⟩, y0_0, y0_1, y0_2, y0_3, y0_4, y0_5, y0_6, y0_7⟩ := BC.eightf
  have xl0 := BC.lt
  go_wp2_with fail
  clear x0_0 x0_1 x0_2 x0_3 x0_4 x0_5 x0_6 x0_7 y0_0 y0_1 y0_2 y0_3 y0_4 y0_5 y0_6 y0_7 xl0
  (with_reducible refine Calls.mono (H2.out _ (Env.keep HE.out K HNG)) ?_)
  rintro e W3 ⟨rfl, hr⟩
  replace BC := BC.reach hr
  replace K := Keep.reach K hr
  clear hr
  obtain ⟨⟨x0_0, x0_1, x0_2, x0_3, x0_4, x0_5, x0_6, x0_7⟩, y0_0, y0_1, y0_2, y0_3, y0_4, y0_5, y0_6, y0_7⟩ := BC.eightf
  have xl0 := BC.lt
  go_wp2_with fail
  clear x0_0 x0_1 x0_2 x0_3 x0_4 x0_5 x0_6 x0_7 y0_0 y0_1 y0_2 y0_3 y0_4 y0_5 y0_6 y0_7 xl0
  (with_reducible refine Calls.mono (H4.out _) ?_)
  rintro e W4 ⟨rfl, hr⟩
  replace BC := BC.reach hr
  replace K := Keep.reach K hr
  clear hr
  obtain ⟨⟨x0_0, x0_1, x0_2, x0_3, x0_4, x0_5, x0_6, x0_7⟩, y0_0, y0_1, y0_2, y0_3, y0_4, y0_5, y0_6, y0_7⟩ := BC.eightf
  have xl0 := BC.lt
  go_wp2_with (first | (go_at_call 142; (with_reducible refine Calls.mono (HCP.out _) ?_); rintro e w' ⟨rfl, rfl⟩))
  clear x0_0 x0_1 x0_2 x0_3 x0_4 x0_5 x0_6 x0_7 y0_0 y0_1 y0_2 y0_3 y0_4 y0_5 y0_6 y0_7 xl0
  replace BC := (BC.put 3 (.string ⟨#[97]⟩))
  replace K := Keep.setCell K ⟨B, 3, none⟩ (by first | exact .inl rfl | exact .inr (by first | (simp; done) | (simp; omega))) (.string ⟨#[97]⟩)
  generalize W4.setCell ⟨B, 3, none⟩ (.string ⟨#[97]⟩) = W5 at K BC ⊢
  go_ret
  exact ⟨rfl, K, BC⟩
end Go.Proofs.YtbeaheicjopooaaGreatDoor
