/- The examples of the chapter on joining hold of the program; no condition but on the library's own variables. -/
import Derived.Test.YtbeaheicjopooaaGreatDoorProg
import Derived.Test.YtbeaheicjopooaaGreatDoorAt
namespace Go.Proofs.YtbeaheicjopooaaGreatDoor
open Go.RowKit Go.Sort
attribute [local go_sem] get_mk mk_append mk_extract0 mk_extract_end mk_extract_cons empty_mk cell_grow frozen_grow size_grow

theorem joins_0 (w : World) (hE : Env w) : Calls Tryz.prog 12 #[.agg #[.bool false, .string ⟨#[]⟩, .string ⟨#[]⟩, .int .i64 0, .string ⟨#[]⟩, .string ⟨#[]⟩], .string ⟨#[122]⟩] w fun e w' => e = .returned (.tuple #[.agg #[.bool false, .string ⟨#[]⟩, .string ⟨#[]⟩, .int .i64 0, .string ⟨#[]⟩, .string ⟨#[]⟩], .int .i64 51]) ∧ Reach w w' := by
  have h := rsjoin_calls false [] [] 0 [] [] [122] w (by decide) (by decide) (by decide) (by decide) (by decide) (by decide) (by decide) hE
  rw [show joinU ⟨false, [], [], 0, [], []⟩ [122] = ⟨false, [], [], 0, [], []⟩ by decide +kernel, show joinE ⟨false, [], [], 0, [], []⟩ [122] = 51 by decide +kernel] at h
  exact h
theorem joins_1 (w : World) (hE : Env w) : Calls Tryz.prog 44 #[.string ⟨#[122]⟩] w fun e w' => e = .returned (.string ⟨#[104, 116, 116, 112, 58, 47, 47, 97, 58, 56, 49, 47, 120, 47, 122]⟩) ∧ Reach w w' := by
  have h := at_calls [122] ⟨false, [104, 116, 116, 112], [97], 81, [47, 120, 47, 122], []⟩ [104, 116, 116, 112, 58, 47, 47, 97, 58, 56, 49, 47, 120, 47, 122] (by decide +kernel) (by decide +kernel) (by decide +kernel) (by decide +kernel) (by decide +kernel) (by decide) w hE
  exact h
theorem joins_2 (w : World) (hE : Env w) : Calls Tryz.prog 44 #[.string ⟨#[46, 46, 47, 122, 63, 107]⟩] w fun e w' => e = .returned (.string ⟨#[104, 116, 116, 112, 58, 47, 47, 97, 58, 56, 49, 47, 122, 63, 107]⟩) ∧ Reach w w' := by
  have h := at_calls [46, 46, 47, 122, 63, 107] ⟨false, [104, 116, 116, 112], [97], 81, [47, 122], [63, 107]⟩ [104, 116, 116, 112, 58, 47, 47, 97, 58, 56, 49, 47, 122, 63, 107] (by decide +kernel) (by decide +kernel) (by decide +kernel) (by decide +kernel) (by decide +kernel) (by decide) w hE
  exact h
theorem joins_3 (w : World) (hE : Env w) : Calls Tryz.prog 44 #[.string ⟨#[47, 122]⟩] w fun e w' => e = .returned (.string ⟨#[104, 116, 116, 112, 58, 47, 47, 97, 58, 56, 49, 47, 122]⟩) ∧ Reach w w' := by
  have h := at_calls [47, 122] ⟨false, [104, 116, 116, 112], [97], 81, [47, 122], []⟩ [104, 116, 116, 112, 58, 47, 47, 97, 58, 56, 49, 47, 122] (by decide +kernel) (by decide +kernel) (by decide +kernel) (by decide +kernel) (by decide +kernel) (by decide) w hE
  exact h
theorem joins_4 (w : World) (hE : Env w) : Calls Tryz.prog 44 #[.string ⟨#[47, 47, 98, 47, 122]⟩] w fun e w' => e = .returned (.string ⟨#[104, 116, 116, 112, 58, 47, 47, 98, 47, 122]⟩) ∧ Reach w w' := by
  have h := at_calls [47, 47, 98, 47, 122] ⟨false, [104, 116, 116, 112], [98], 0, [47, 122], []⟩ [104, 116, 116, 112, 58, 47, 47, 98, 47, 122] (by decide +kernel) (by decide +kernel) (by decide +kernel) (by decide +kernel) (by decide +kernel) (by decide) w hE
  exact h
theorem joins_5 (w : World) (hE : Env w) : Calls Tryz.prog 44 #[.string ⟨#[63, 107]⟩] w fun e w' => e = .returned (.string ⟨#[104, 116, 116, 112, 58, 47, 47, 97, 58, 56, 49, 47, 120, 47, 121, 63, 107]⟩) ∧ Reach w w' := by
  have h := at_calls [63, 107] ⟨false, [104, 116, 116, 112], [97], 81, [47, 120, 47, 121], [63, 107]⟩ [104, 116, 116, 112, 58, 47, 47, 97, 58, 56, 49, 47, 120, 47, 121, 63, 107] (by decide +kernel) (by decide +kernel) (by decide +kernel) (by decide +kernel) (by decide +kernel) (by decide) w hE
  exact h
theorem joins_6 (w : World) (hE : Env w) : Calls Tryz.prog 44 #[.string ⟨#[35, 102]⟩] w fun e w' => e = .returned (.string ⟨#[104, 116, 116, 112, 58, 47, 47, 97, 58, 56, 49, 47, 120, 47, 121, 63, 113]⟩) ∧ Reach w w' := by
  have h := at_calls [35, 102] ⟨false, [104, 116, 116, 112], [97], 81, [47, 120, 47, 121], [63, 113]⟩ [104, 116, 116, 112, 58, 47, 47, 97, 58, 56, 49, 47, 120, 47, 121, 63, 113] (by decide +kernel) (by decide +kernel) (by decide +kernel) (by decide +kernel) (by decide +kernel) (by decide) w hE
  exact h
theorem joins_7 (w : World) (hE : Env w) : Calls Tryz.prog 44 #[.string ⟨#[106, 97, 118, 97, 115, 99, 114, 105, 112, 116, 58, 49]⟩] w fun e w' => e = .returned (.string ⟨#[106, 97, 118, 97, 115, 99, 114, 105, 112, 116, 58, 49]⟩) ∧ Reach w w' := by
  have h := at_calls [106, 97, 118, 97, 115, 99, 114, 105, 112, 116, 58, 49] ⟨true, [106, 97, 118, 97, 115, 99, 114, 105, 112, 116], [], 0, [49], []⟩ [106, 97, 118, 97, 115, 99, 114, 105, 112, 116, 58, 49] (by decide +kernel) (by decide +kernel) (by decide +kernel) (by decide +kernel) (by decide +kernel) (by decide) w hE
  exact h
theorem joins_8 (w : World) (hE : Env w) : Calls Tryz.prog 15 #[.string ⟨#[122]⟩] w fun e w' => e = .returned (.int .i64 6) ∧ Reach w w' := by
  have h := kind_calls [122] w (by decide) hE
  rw [show kindL [122] = 6 by decide +kernel] at h
  exact h
theorem joins_9 (w : World) (hE : Env w) : Calls Tryz.prog 15 #[.string ⟨#[32, 97, 58, 98]⟩] w fun e w' => e = .returned (.int .i64 1) ∧ Reach w w' := by
  have h := kind_calls [32, 97, 58, 98] w (by decide) hE
  rw [show kindL [32, 97, 58, 98] = 1 by decide +kernel] at h
  exact h
set_option maxRecDepth 100000 in
set_option maxHeartbeats 4000000 in
theorem joins_calls (w : World) (hE : Env w) : Calls Tryz.prog 14 #[] w fun e w' => e = .returned (.bool true) ∧ Reach w w' := by
  have HE := Lib.hid hE
  clear hE
  go_enter Tryz.func14, Tryz.ntmps14
  have Q := Reach.refl w
  go_wp2_with fail
  refine Calls.mono (joins_0 _ (Env.reach HE.out Q)) ?_
  rintro e W0 ⟨rfl, hr⟩
  replace Q := Reach.trans Q hr
  clear hr
  go_wp2_with fail
  have B1 := Blk.new W0 #[.bool false, .string ⟨#[]⟩, .string ⟨#[]⟩, .int .i64 0, .string ⟨#[]⟩, .string ⟨#[]⟩] 23
  replace Q := Reach.alloc Q (.cells #[.bool false, .string ⟨#[]⟩, .string ⟨#[]⟩, .int .i64 0, .string ⟨#[]⟩, .string ⟨#[]⟩] 23)
  generalize W0.alloc (.cells #[.bool false, .string ⟨#[]⟩, .string ⟨#[]⟩, .int .i64 0, .string ⟨#[]⟩, .string ⟨#[]⟩] 23) = X1 at B1 Q ⊢
  generalize W0.heap.size = nB1 at *
  clear B1
  go_wp2_with fail
  refine Calls.mono (joins_1 _ (Env.reach HE.out Q)) ?_
  rintro e W2 ⟨rfl, hr⟩
  replace Q := Reach.trans Q hr
  clear hr
  go_wp2_with fail
  refine Calls.mono (joins_2 _ (Env.reach HE.out Q)) ?_
  rintro e W3 ⟨rfl, hr⟩
  replace Q := Reach.trans Q hr
  clear hr
  go_wp2_with fail
  refine Calls.mono (joins_3 _ (Env.reach HE.out Q)) ?_
  rintro e W4 ⟨rfl, hr⟩
  replace Q := Reach.trans Q hr
  clear hr
  go_wp2_with fail
  refine Calls.mono (joins_4 _ (Env.reach HE.out Q)) ?_
  rintro e W5 ⟨rfl, hr⟩
  replace Q := Reach.trans Q hr
  clear hr
  go_wp2_with fail
  refine Calls.mono (joins_5 _ (Env.reach HE.out Q)) ?_
  rintro e W6 ⟨rfl, hr⟩
  replace Q := Reach.trans Q hr
  clear hr
  go_wp2_with (first | (go_at_call 44; (with_reducible refine Calls.mono (joins_6 _ (Env.reach HE.out (by (repeat (first | (with_reducible assumption) | (with_reducible exact Reach.refl _) | (with_reducible refine Reach.alloc ?_ _) | (with_reducible refine Reach.drew ?_) | (with_reducible refine Reach.drewN ?_ _) | (with_reducible refine Reach.grow ?_ _ _) | (with_reducible refine Reach.setCell ?_ ?_ _) | (with_reducible refine Reach.trans ?_ (by with_reducible assumption)) | (show _ ≤ Addr.block _; first | (exact Nat.le_refl _) | (show (_ : Nat) ≤ _; omega)) | (simp; done) | (simp; omega)))))) ?_); rintro e w' ⟨rfl, hb⟩; obtain ⟨hc, hf, hz⟩ := Reach.facts hb) | (go_at_call 44; (with_reducible refine Calls.mono (joins_7 _ (Env.reach HE.out (by (repeat (first | (with_reducible assumption) | (with_reducible exact Reach.refl _) | (with_reducible refine Reach.alloc ?_ _) | (with_reducible refine Reach.drew ?_) | (with_reducible refine Reach.drewN ?_ _) | (with_reducible refine Reach.grow ?_ _ _) | (with_reducible refine Reach.setCell ?_ ?_ _) | (with_reducible refine Reach.trans ?_ (by with_reducible assumption)) | (show _ ≤ Addr.block _; first | (exact Nat.le_refl _) | (show (_ : Nat) ≤ _; omega)) | (simp; done) | (simp; omega)))))) ?_); rintro e w' ⟨rfl, hb⟩; obtain ⟨hc, hf, hz⟩ := Reach.facts hb) | (go_at_call 15; (with_reducible refine Calls.mono (joins_8 _ (Env.reach HE.out (by (repeat (first | (with_reducible assumption) | (with_reducible exact Reach.refl _) | (with_reducible refine Reach.alloc ?_ _) | (with_reducible refine Reach.drew ?_) | (with_reducible refine Reach.drewN ?_ _) | (with_reducible refine Reach.grow ?_ _ _) | (with_reducible refine Reach.setCell ?_ ?_ _) | (with_reducible refine Reach.trans ?_ (by with_reducible assumption)) | (show _ ≤ Addr.block _; first | (exact Nat.le_refl _) | (show (_ : Nat) ≤ _; omega)) | (simp; done) | (simp; omega)))))) ?_); rintro e w' ⟨rfl, hb⟩; obtain ⟨hc, hf, hz⟩ := Reach.facts hb) | (go_at_call 15; (with_reducible refine Calls.mono (joins_9 _ (Env.reach HE.out (by (repeat (first | (with_reducible assumption) | (with_reducible exact Reach.refl _) | (with_reducible refine Reach.alloc ?_ _) | (with_reducible refine Reach.drew ?_) | (with_reducible refine Reach.drewN ?_ _) | (with_reducible refine Reach.grow ?_ _ _) | (with_reducible refine Reach.setCell ?_ ?_ _) | (with_reducible refine Reach.trans ?_ (by with_reducible assumption)) | (show _ ≤ Addr.block _; first | (exact Nat.le_refl _) | (show (_ : Nat) ≤ _; omega)) | (simp; done) | (simp; omega)))))) ?_); rintro e w' ⟨rfl, hb⟩; obtain ⟨hc, hf, hz⟩ := Reach.facts hb) | ((with_reducible refine wp_region_quiet_below (by kernel_rfl) (by kernel_rfl) ?_); (repeat (any_goals (first | (go_big_quiet_step ((first | (go_at_call 44; with_reducible exact reg_reach (joins_6 _ (Env.reach HE.out (by (repeat (first | (with_reducible assumption) | (with_reducible exact Reach.refl _) | (with_reducible refine Reach.alloc ?_ _) | (with_reducible refine Reach.drew ?_) | (with_reducible refine Reach.drewN ?_ _) | (with_reducible refine Reach.grow ?_ _ _) | (with_reducible refine Reach.setCell ?_ ?_ _) | (with_reducible refine Reach.trans ?_ (by with_reducible assumption)) | (show _ ≤ Addr.block _; first | (exact Nat.le_refl _) | (show (_ : Nat) ≤ _; omega)) | (simp; done) | (simp; omega))))))) | (go_at_call 44; with_reducible exact reg_reach (joins_7 _ (Env.reach HE.out (by (repeat (first | (with_reducible assumption) | (with_reducible exact Reach.refl _) | (with_reducible refine Reach.alloc ?_ _) | (with_reducible refine Reach.drew ?_) | (with_reducible refine Reach.drewN ?_ _) | (with_reducible refine Reach.grow ?_ _ _) | (with_reducible refine Reach.setCell ?_ ?_ _) | (with_reducible refine Reach.trans ?_ (by with_reducible assumption)) | (show _ ≤ Addr.block _; first | (exact Nat.le_refl _) | (show (_ : Nat) ≤ _; omega)) | (simp; done) | (simp; omega))))))) | (go_at_call 15; with_reducible exact reg_reach (joins_8 _ (Env.reach HE.out (by (repeat (first | (with_reducible assumption) | (with_reducible exact Reach.refl _) | (with_reducible refine Reach.alloc ?_ _) | (with_reducible refine Reach.drew ?_) | (with_reducible refine Reach.drewN ?_ _) | (with_reducible refine Reach.grow ?_ _ _) | (with_reducible refine Reach.setCell ?_ ?_ _) | (with_reducible refine Reach.trans ?_ (by with_reducible assumption)) | (show _ ≤ Addr.block _; first | (exact Nat.le_refl _) | (show (_ : Nat) ≤ _; omega)) | (simp; done) | (simp; omega))))))) | (go_at_call 15; with_reducible exact reg_reach (joins_9 _ (Env.reach HE.out (by (repeat (first | (with_reducible assumption) | (with_reducible exact Reach.refl _) | (with_reducible refine Reach.alloc ?_ _) | (with_reducible refine Reach.drew ?_) | (with_reducible refine Reach.drewN ?_ _) | (with_reducible refine Reach.grow ?_ _ _) | (with_reducible refine Reach.setCell ?_ ?_ _) | (with_reducible refine Reach.trans ?_ (by with_reducible assumption)) | (show _ ≤ Addr.block _; first | (exact Nat.le_refl _) | (show (_ : Nat) ≤ _; omega)) | (simp; done) | (simp; omega)))))))))) | (quiet_step ((first | (go_at_call 44; with_reducible exact reg_reach (joins_6 _ (Env.reach HE.out (by (repeat (first | (with_reducible assumption) | (with_reducible exact Reach.refl _) | (with_reducible refine Reach.alloc ?_ _) | (with_reducible refine Reach.drew ?_) | (with_reducible refine Reach.drewN ?_ _) | (with_reducible refine Reach.grow ?_ _ _) | (with_reducible refine Reach.setCell ?_ ?_ _) | (with_reducible refine Reach.trans ?_ (by with_reducible assumption)) | (show _ ≤ Addr.block _; first | (exact Nat.le_refl _) | (show (_ : Nat) ≤ _; omega)) | (simp; done) | (simp; omega))))))) | (go_at_call 44; with_reducible exact reg_reach (joins_7 _ (Env.reach HE.out (by (repeat (first | (with_reducible assumption) | (with_reducible exact Reach.refl _) | (with_reducible refine Reach.alloc ?_ _) | (with_reducible refine Reach.drew ?_) | (with_reducible refine Reach.drewN ?_ _) | (with_reducible refine Reach.grow ?_ _ _) | (with_reducible refine Reach.setCell ?_ ?_ _) | (with_reducible refine Reach.trans ?_ (by with_reducible assumption)) | (show _ ≤ Addr.block _; first | (exact Nat.le_refl _) | (show (_ : Nat) ≤ _; omega)) | (simp; done) | (simp; omega))))))) | (go_at_call 15; with_reducible exact reg_reach (joins_8 _ (Env.reach HE.out (by (repeat (first | (with_reducible assumption) | (with_reducible exact Reach.refl _) | (with_reducible refine Reach.alloc ?_ _) | (with_reducible refine Reach.drew ?_) | (with_reducible refine Reach.drewN ?_ _) | (with_reducible refine Reach.grow ?_ _ _) | (with_reducible refine Reach.setCell ?_ ?_ _) | (with_reducible refine Reach.trans ?_ (by with_reducible assumption)) | (show _ ≤ Addr.block _; first | (exact Nat.le_refl _) | (show (_ : Nat) ≤ _; omega)) | (simp; done) | (simp; omega))))))) | (go_at_call 15; with_reducible exact reg_reach (joins_9 _ (Env.reach HE.out (by (repeat (first | (with_reducible assumption) | (with_reducible exact Reach.refl _) | (with_reducible refine Reach.alloc ?_ _) | (with_reducible refine Reach.drew ?_) | (with_reducible refine Reach.drewN ?_ _) | (with_reducible refine Reach.grow ?_ _ _) | (with_reducible refine Reach.setCell ?_ ?_ _) | (with_reducible refine Reach.trans ?_ (by with_reducible assumption)) | (show _ ≤ Addr.block _; first | (exact Nat.le_refl _) | (show (_ : Nat) ≤ _; omega)) | (simp; done) | (simp; omega)))))))))) | (refine wpQuiet_step (fun K hK => ?_); go_simp; split <;> (refine hK _ ?_; clear hK K))))); all_goals (refine wpQuiet_nil ?_; intro _ hw'; obtain ⟨⟨dq, osq⟩, hw''⟩ := hw'; subst hw'')))
  go_ret
  exact ⟨rfl, by (repeat (first | (with_reducible assumption) | (with_reducible exact Reach.refl _) | (with_reducible refine Reach.alloc ?_ _) | (with_reducible refine Reach.drew ?_) | (with_reducible refine Reach.drewN ?_ _) | (with_reducible refine Reach.grow ?_ _ _) | (with_reducible refine Reach.setCell ?_ ?_ _) | (with_reducible refine Reach.trans ?_ (by with_reducible assumption)) | (show _ ≤ Addr.block _; first | (exact Nat.le_refl _) | (show (_ : Nat) ≤ _; omega)) | (simp; done) | (simp; omega)))⟩
end Go.Proofs.YtbeaheicjopooaaGreatDoor
