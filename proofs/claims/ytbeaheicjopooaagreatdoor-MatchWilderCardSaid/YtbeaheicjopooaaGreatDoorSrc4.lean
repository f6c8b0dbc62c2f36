/- What package source's Parse answers at the words of the examples. -/
import Derived.Test.YtbeaheicjopooaaGreatDoorProg
import Derived.Test.YtbeaheicjopooaaGreatDoorSrc3
namespace Go.Proofs.YtbeaheicjopooaaGreatDoor
open Go.RowKit Go.Sort
attribute [local go_sem] get_mk mk_append mk_extract0 mk_extract_end mk_extract_cons empty_mk cell_grow frozen_grow size_grow
attribute [local go_sem] mk_extract
theorem row_grow {w : World} {g : Nat} {o : Obj} (h : w.heap[g]? = some o) {d : Nat} {os : Array Obj} : (grow (redrawn w d) os).heap[g]? = some o :=
  ((below_regrown w d os).block g (Array.getElem?_eq_some_iff.1 h).1).trans h
set_option maxRecDepth 100000 in
set_option maxHeartbeats 4000000 in
theorem cquoted_calls (B : Nat) (w : World) (BC : Blk w B #[.int .i64 0, .string ⟨#[]⟩, .string ⟨#[]⟩, .string ⟨#[]⟩, .bool false, .int .i64 0, .string ⟨#[]⟩, .string ⟨#[39, 115, 101, 108, 102, 39]⟩] 99) (hE : Env w) (hK : KeptIs w) (HNG : NG ≤ B) :
    Calls Tryz.prog 121 #[.pointer (some ⟨B, 0, none⟩)] w fun e w' => e = .returned (.bool true) ∧ Keep B w w' ∧ Blk w' B #[.int .i64 2, .string ⟨#[]⟩, .string ⟨#[]⟩, .string ⟨#[]⟩, .bool false, .int .i64 0, .string ⟨#[]⟩, .string ⟨#[39, 115, 101, 108, 102, 39]⟩] 99 := by
  have h4 := fun W => lower_calls [39, 115, 101, 108, 102, 39] W (by decide)
  rw [show lowerL [39, 115, 101, 108, 102, 39] = [39, 115, 101, 108, 102, 39] by decide +kernel] at h4
  have H4 := Lib.hid h4
  have HE := Lib.hid hE
  have HKP := Lib.hid hK
  clear h4 hE hK
  have p1 : Lib.hasPrefix [39, 115, 101, 108, 102, 39] [39, 110, 111, 110, 99, 101, 45] = false := by decide +kernel
  have p2 : Lib.hasPrefix [39, 115, 101, 108, 102, 39] [39, 109, 97, 114, 107, 45] = false := by decide +kernel
  go_enter Tryz.func121, Tryz.ntmps121
  have K := Keep.refl B w
  obtain ⟨⟨x0_0, x0_1, x0_2, x0_3, x0_4, x0_5, x0_6, x0_7⟩, y0_0, y0_1, y0_2, y0_3, y0_4, y0_5, y0_6, y0_7⟩ := BC.eightf
  have xl0 := BC.lt
  go_wp2_with fail
  clear x0_0 x0_1 x0_2 x0_3 x0_4 x0_5 x0_6 x0_7 y0_0 y0_1 y0_2 y0_3 y0_4 y0_5 y0_6 y0_7 xl0
  (with_reducible refine Calls.mono (H4.out _) ?_)
  rintro e W1 ⟨rfl, hr⟩
  replace BC := BC.reach hr
  replace K := Keep.reach K hr
  clear hr
  obtain ⟨⟨x0, x1, x2, x3, x4, x5, x6, x7⟩, y0, y1, y2, y3, y4, y5, y6, y7⟩ := BC.eightf
  have xl := BC.lt
  obtain ⟨kt, kf, hrow⟩ := (HKP.out.keep K HNG).row
  go_wp2_with (first | (refine wpList_load_row rfl _ _ rfl 1 rfl kt _ kf _ (row_grow hrow) Tryz.underlying117 rfl (by kernel_rfl) ?_) | (go_at_call 47; (with_reducible refine Calls.mono (hasPre2_calls _ _ _) ?_); rintro e w' ⟨rfl, rfl⟩) | ((with_reducible refine wp_region_quiet_below (by kernel_rfl) (by kernel_rfl) ?_); (repeat (any_goals (first | (go_big_quiet_step ((first | (go_at_call 47; with_reducible exact reg_pure (hasPre2_calls _ _ _))))) | (quiet_step ((first | (go_at_call 47; with_reducible exact reg_pure (hasPre2_calls _ _ _))))) | (refine wpQuiet_step (fun K hK => ?_); go_simp; split <;> (refine hK _ ?_; clear hK K))))); all_goals (refine wpQuiet_nil ?_; intro _ hw'; obtain ⟨⟨dq, osq⟩, hw''⟩ := hw'; subst hw'')))
  replace BC := BC.reach (Reach.grow (Reach.refl W1) dq osq)
  replace K := Keep.reach K (Reach.grow (Reach.refl W1) dq osq)
  clear x0 x1 x2 x3 x4 x5 x6 x7 y0 y1 y2 y3 y4 y5 y6 y7 xl hrow p1 p2
  generalize grow (redrawn W1 dq) osq = W2 at BC K ⊢
  go_loopw [5, 6, 24] (fun _ _ i wr => ∃ k : Nat, k ≤ 9 ∧ i = .int .i64 k ∧ RowKit.Hid (Keep B w wr) ∧ RowKit.Hid (Blk wr B #[.int .i64 (if k ≤ 2 then 0 else 2), .string ⟨#[]⟩, .string ⟨#[]⟩, .string ⟨#[]⟩, .bool false, .int .i64 0, .string ⟨#[]⟩, .string ⟨#[39, 115, 101, 108, 102, 39]⟩] 99)) (fun _ _ i _ => 9 - (intOf i).toNat)
  case atStart => exact ⟨0, by omega, rfl, K, BC⟩
  case round =>
    obtain ⟨k, hk, rfl, hkeep, hblk⟩ := hrel
    clear K BC
    have hk9 : k = 0 ∨ k = 1 ∨ k = 2 ∨ k = 3 ∨ k = 4 ∨ k = 5 ∨ k = 6 ∨ k = 7 ∨ k = 8 ∨ k = 9 := by omega
    rcases hk9 with rfl | rfl | rfl | rfl | rfl | rfl | rfl | rfl | rfl | rfl
    · have hi : ∀ w : World, (Instr.index 117 (.agg (keptL.map fun s => Value.string ⟨s.toArray⟩).toArray) (.int .i64 0)).run Tryz.prog w = .ok (.string ⟨#[]⟩) w := fun _ => by kernel_rfl
      obtain ⟨⟨x0, x1, x2, x3, x4, x5, x6, x7⟩, y0, y1, y2, y3, y4, y5, y6, y7⟩ := hblk.out.eightf
      have xl := hblk.out.lt
      go_wp2_with fail
      exact ⟨⟨1, by omega, rfl, hkeep.out, hblk.out⟩, by simp [intOf]⟩
    · have hi : ∀ w : World, (Instr.index 117 (.agg (keptL.map fun s => Value.string ⟨s.toArray⟩).toArray) (.int .i64 1)).run Tryz.prog w = .ok (.string ⟨#[39, 110, 111, 110, 101, 39]⟩) w := fun _ => by kernel_rfl
      obtain ⟨⟨x0, x1, x2, x3, x4, x5, x6, x7⟩, y0, y1, y2, y3, y4, y5, y6, y7⟩ := hblk.out.eightf
      have xl := hblk.out.lt
      go_wp2_with fail
      exact ⟨⟨2, by omega, rfl, hkeep.out, hblk.out⟩, by simp [intOf]⟩
    · have hi : ∀ w : World, (Instr.index 117 (.agg (keptL.map fun s => Value.string ⟨s.toArray⟩).toArray) (.int .i64 2)).run Tryz.prog w = .ok (.string ⟨#[39, 115, 101, 108, 102, 39]⟩) w := fun _ => by kernel_rfl
      obtain ⟨⟨x0, x1, x2, x3, x4, x5, x6, x7⟩, y0, y1, y2, y3, y4, y5, y6, y7⟩ := hblk.out.eightf
      have xl := hblk.out.lt
      go_wp2_with fail
      exact ⟨⟨3, by omega, rfl, Keep.setCell hkeep.out ⟨B, 0, none⟩ (.inl rfl) _, hblk.out.put 0 (.int .i64 2)⟩, by simp [intOf]⟩
    · have hi : ∀ w : World, (Instr.index 117 (.agg (keptL.map fun s => Value.string ⟨s.toArray⟩).toArray) (.int .i64 3)).run Tryz.prog w = .ok (.string ⟨#[39, 117, 110, 115, 97, 102, 101, 45, 105, 110, 108, 105, 110, 101, 39]⟩) w := fun _ => by kernel_rfl
      obtain ⟨⟨x0, x1, x2, x3, x4, x5, x6, x7⟩, y0, y1, y2, y3, y4, y5, y6, y7⟩ := hblk.out.eightf
      have xl := hblk.out.lt
      go_wp2_with fail
      exact ⟨⟨4, by omega, rfl, hkeep.out, hblk.out⟩, by simp [intOf]⟩
    · have hi : ∀ w : World, (Instr.index 117 (.agg (keptL.map fun s => Value.string ⟨s.toArray⟩).toArray) (.int .i64 4)).run Tryz.prog w = .ok (.string ⟨#[39, 117, 110, 115, 97, 102, 101, 45, 101, 118, 97, 108, 39]⟩) w := fun _ => by kernel_rfl
      obtain ⟨⟨x0, x1, x2, x3, x4, x5, x6, x7⟩, y0, y1, y2, y3, y4, y5, y6, y7⟩ := hblk.out.eightf
      have xl := hblk.out.lt
      go_wp2_with fail
      exact ⟨⟨5, by omega, rfl, hkeep.out, hblk.out⟩, by simp [intOf]⟩
    · have hi : ∀ w : World, (Instr.index 117 (.agg (keptL.map fun s => Value.string ⟨s.toArray⟩).toArray) (.int .i64 5)).run Tryz.prog w = .ok (.string ⟨#[39, 119, 97, 115, 109, 45, 117, 110, 115, 97, 102, 101, 45, 101, 118, 97, 108, 39]⟩) w := fun _ => by kernel_rfl
      obtain ⟨⟨x0, x1, x2, x3, x4, x5, x6, x7⟩, y0, y1, y2, y3, y4, y5, y6, y7⟩ := hblk.out.eightf
      have xl := hblk.out.lt
      go_wp2_with fail
      exact ⟨⟨6, by omega, rfl, hkeep.out, hblk.out⟩, by simp [intOf]⟩
    · have hi : ∀ w : World, (Instr.index 117 (.agg (keptL.map fun s => Value.string ⟨s.toArray⟩).toArray) (.int .i64 6)).run Tryz.prog w = .ok (.string ⟨#[39, 115, 116, 114, 105, 99, 116, 45, 100, 121, 110, 97, 109, 105, 99, 39]⟩) w := fun _ => by kernel_rfl
      obtain ⟨⟨x0, x1, x2, x3, x4, x5, x6, x7⟩, y0, y1, y2, y3, y4, y5, y6, y7⟩ := hblk.out.eightf
      have xl := hblk.out.lt
      go_wp2_with fail
      exact ⟨⟨7, by omega, rfl, hkeep.out, hblk.out⟩, by simp [intOf]⟩
    · have hi : ∀ w : World, (Instr.index 117 (.agg (keptL.map fun s => Value.string ⟨s.toArray⟩).toArray) (.int .i64 7)).run Tryz.prog w = .ok (.string ⟨#[39, 117, 110, 115, 97, 102, 101, 45, 104, 97, 115, 104, 101, 115, 39]⟩) w := fun _ => by kernel_rfl
      obtain ⟨⟨x0, x1, x2, x3, x4, x5, x6, x7⟩, y0, y1, y2, y3, y4, y5, y6, y7⟩ := hblk.out.eightf
      have xl := hblk.out.lt
      go_wp2_with fail
      exact ⟨⟨8, by omega, rfl, hkeep.out, hblk.out⟩, by simp [intOf]⟩
    · have hi : ∀ w : World, (Instr.index 117 (.agg (keptL.map fun s => Value.string ⟨s.toArray⟩).toArray) (.int .i64 8)).run Tryz.prog w = .ok (.string ⟨#[39, 114, 101, 112, 111, 114, 116, 45, 115, 97, 109, 112, 108, 101, 39]⟩) w := fun _ => by kernel_rfl
      obtain ⟨⟨x0, x1, x2, x3, x4, x5, x6, x7⟩, y0, y1, y2, y3, y4, y5, y6, y7⟩ := hblk.out.eightf
      have xl := hblk.out.lt
      go_wp2_with fail
      exact ⟨⟨9, by omega, rfl, hkeep.out, hblk.out⟩, by simp [intOf]⟩
    · go_wp2_with fail
      go_ret
      exact ⟨rfl, hkeep.out, hblk.out⟩
set_option maxRecDepth 100000 in
set_option maxHeartbeats 4000000 in
theorem sparse1_calls (w : World) (hE : Env w) : Calls Tryz.prog 95 #[.string ⟨#[42, 46, 97, 46, 98]⟩] w fun e w' => e = .returned (.tuple #[.agg #[.int .i64 12, .string ⟨#[]⟩, .string ⟨#[]⟩, .string ⟨#[97, 46, 98]⟩, .bool true, .int .i64 0, .string ⟨#[]⟩], .bool true]) ∧ Reach w w' := by
  have HE := Lib.hid hE
  clear hE
  go_enter Tryz.func95, Tryz.ntmps95
  go_wp2_with fail
  have BR : Blk (w.alloc (.cells #[.int .i64 0, .string ⟨#[]⟩, .string ⟨#[]⟩, .string ⟨#[]⟩, .bool false, .int .i64 0, .string ⟨#[]⟩] 33)) (w.heap.size) #[.int .i64 0, .string ⟨#[]⟩, .string ⟨#[]⟩, .string ⟨#[]⟩, .bool false, .int .i64 0, .string ⟨#[]⟩] 33 := by have h := Blk.new w #[.int .i64 0, .string ⟨#[]⟩, .string ⟨#[]⟩, .string ⟨#[]⟩, .bool false, .int .i64 0, .string ⟨#[]⟩] 33; exact h
  have BC : Blk ((w.alloc (.cells #[.int .i64 0, .string ⟨#[]⟩, .string ⟨#[]⟩, .string ⟨#[]⟩, .bool false, .int .i64 0, .string ⟨#[]⟩] 33)).alloc (.cells #[.int .i64 0, .string ⟨#[]⟩, .string ⟨#[]⟩, .string ⟨#[]⟩, .bool false, .int .i64 0, .string ⟨#[]⟩, .string ⟨#[42, 46, 97, 46, 98]⟩] 99)) (w.heap.size + 1) #[.int .i64 0, .string ⟨#[]⟩, .string ⟨#[]⟩, .string ⟨#[]⟩, .bool false, .int .i64 0, .string ⟨#[]⟩, .string ⟨#[42, 46, 97, 46, 98]⟩] 99 := by have h := Blk.new (w.alloc (.cells #[.int .i64 0, .string ⟨#[]⟩, .string ⟨#[]⟩, .string ⟨#[]⟩, .bool false, .int .i64 0, .string ⟨#[]⟩] 33)) #[.int .i64 0, .string ⟨#[]⟩, .string ⟨#[]⟩, .string ⟨#[]⟩, .bool false, .int .i64 0, .string ⟨#[]⟩, .string ⟨#[42, 46, 97, 46, 98]⟩] 99; rw [World.size_alloc] at h; exact h
  replace BR := BR.reach (Reach.alloc (Reach.refl _) (.cells #[.int .i64 0, .string ⟨#[]⟩, .string ⟨#[]⟩, .string ⟨#[]⟩, .bool false, .int .i64 0, .string ⟨#[]⟩, .string ⟨#[42, 46, 97, 46, 98]⟩] 99))
  have Q : Reach w _ := Reach.alloc (Reach.alloc (Reach.refl w) (.cells #[.int .i64 0, .string ⟨#[]⟩, .string ⟨#[]⟩, .string ⟨#[]⟩, .bool false, .int .i64 0, .string ⟨#[]⟩] 33)) (.cells #[.int .i64 0, .string ⟨#[]⟩, .string ⟨#[]⟩, .string ⟨#[]⟩, .bool false, .int .i64 0, .string ⟨#[]⟩, .string ⟨#[42, 46, 97, 46, 98]⟩] 99)
  generalize (w.alloc (.cells #[.int .i64 0, .string ⟨#[]⟩, .string ⟨#[]⟩, .string ⟨#[]⟩, .bool false, .int .i64 0, .string ⟨#[]⟩] 33)).alloc (.cells #[.int .i64 0, .string ⟨#[]⟩, .string ⟨#[]⟩, .string ⟨#[]⟩, .bool false, .int .i64 0, .string ⟨#[]⟩, .string ⟨#[42, 46, 97, 46, 98]⟩] 99) = W0 at BR BC Q ⊢
  have hng : NG ≤ w.heap.size + 1 := Nat.le_trans HE.out.size (Nat.le_succ _)
  (with_reducible refine Calls.mono (chost1_calls _ W0 BC (Env.reach HE.out Q) hng) ?_)
  clear BC
  rintro e W2 ⟨rfl, K, BC⟩
  replace BR := BR.keep K (by simp)
  replace Q := Keep.toReach K Q (Nat.le_succ _)
  clear K
  obtain ⟨⟨x0_0, x0_1, x0_2, x0_3, x0_4, x0_5, x0_6⟩, y0_0, y0_1, y0_2, y0_3, y0_4, y0_5, y0_6⟩ := BR.sevenf
  have xl0 := BR.lt
  obtain ⟨⟨x1_0, x1_1, x1_2, x1_3, x1_4, x1_5, x1_6, x1_7⟩, y1_0, y1_1, y1_2, y1_3, y1_4, y1_5, y1_6, y1_7⟩ := BC.eightf
  have xl1 := BC.lt
  go_wp2_with fail
  clear x0_0 x0_1 x0_2 x0_3 x0_4 x0_5 x0_6 y0_0 y0_1 y0_2 y0_3 y0_4 y0_5 y0_6 xl0 x1_0 x1_1 x1_2 x1_3 x1_4 x1_5 x1_6 x1_7 y1_0 y1_1 y1_2 y1_3 y1_4 y1_5 y1_6 y1_7 xl1
  (with_reducible refine Calls.mono (sright12_calls 97 [46, 98] true [] _ (by decide) (by decide) (by decide +kernel) (by decide +kernel) (Env.reach HE.out Q)) ?_)
  rintro e W3 ⟨rfl, hr⟩
  replace BR := BR.reach hr
  replace BC := BC.reach hr
  replace Q := Reach.trans Q hr
  clear hr
  obtain ⟨⟨x0_0, x0_1, x0_2, x0_3, x0_4, x0_5, x0_6⟩, y0_0, y0_1, y0_2, y0_3, y0_4, y0_5, y0_6⟩ := BR.sevenf
  have xl0 := BR.lt
  obtain ⟨⟨x1_0, x1_1, x1_2, x1_3, x1_4, x1_5, x1_6, x1_7⟩, y1_0, y1_1, y1_2, y1_3, y1_4, y1_5, y1_6, y1_7⟩ := BC.eightf
  have xl1 := BC.lt
  go_wp2_with fail
  clear x0_0 x0_1 x0_2 x0_3 x0_4 x0_5 x0_6 y0_0 y0_1 y0_2 y0_3 y0_4 y0_5 y0_6 xl0 x1_0 x1_1 x1_2 x1_3 x1_4 x1_5 x1_6 x1_7 y1_0 y1_1 y1_2 y1_3 y1_4 y1_5 y1_6 y1_7 xl1
  have BR1 := (((((((BR.put 0 (.int .i64 12)).put 1 (.string ⟨#[]⟩)).put 2 (.string ⟨#[]⟩)).put 3 (.string ⟨#[97, 46, 98]⟩)).put 4 (.bool true)).put 5 (.int .i64 0)).put 6 (.string ⟨#[]⟩))
  obtain ⟨r0, r1, r2, r3, r4, r5, r6⟩ := BR1.seven
  refine bodyPost_ret (v := .tuple #[.agg #[.int .i64 12, .string ⟨#[]⟩, .string ⟨#[]⟩, .string ⟨#[97, 46, 98]⟩, .bool true, .int .i64 0, .string ⟨#[]⟩], .bool true]) (by simp [results, Tryz.results95, go_sem, r0, r1, r2, r3, r4, r5, r6]) rfl ⟨rfl, ?_⟩
  exact Reach.setCell (Reach.setCell (Reach.setCell (Reach.setCell (Reach.setCell (Reach.setCell (Reach.setCell Q (by simp) _) (by simp) _) (by simp) _) (by simp) _) (by simp) _) (by simp) _) (by simp) _
set_option maxRecDepth 100000 in
set_option maxHeartbeats 4000000 in
theorem sparse2_calls (w : World) (hE : Env w) : Calls Tryz.prog 95 #[.string ⟨#[97, 47, 120, 47]⟩] w fun e w' => e = .returned (.tuple #[.agg #[.int .i64 12, .string ⟨#[]⟩, .string ⟨#[]⟩, .string ⟨#[97]⟩, .bool false, .int .i64 0, .string ⟨#[47, 120, 47]⟩], .bool true]) ∧ Reach w w' := by
  have HE := Lib.hid hE
  clear hE
  go_enter Tryz.func95, Tryz.ntmps95
  go_wp2_with fail
  have BR : Blk (w.alloc (.cells #[.int .i64 0, .string ⟨#[]⟩, .string ⟨#[]⟩, .string ⟨#[]⟩, .bool false, .int .i64 0, .string ⟨#[]⟩] 33)) (w.heap.size) #[.int .i64 0, .string ⟨#[]⟩, .string ⟨#[]⟩, .string ⟨#[]⟩, .bool false, .int .i64 0, .string ⟨#[]⟩] 33 := by have h := Blk.new w #[.int .i64 0, .string ⟨#[]⟩, .string ⟨#[]⟩, .string ⟨#[]⟩, .bool false, .int .i64 0, .string ⟨#[]⟩] 33; exact h
  have BC : Blk ((w.alloc (.cells #[.int .i64 0, .string ⟨#[]⟩, .string ⟨#[]⟩, .string ⟨#[]⟩, .bool false, .int .i64 0, .string ⟨#[]⟩] 33)).alloc (.cells #[.int .i64 0, .string ⟨#[]⟩, .string ⟨#[]⟩, .string ⟨#[]⟩, .bool false, .int .i64 0, .string ⟨#[]⟩, .string ⟨#[97, 47, 120, 47]⟩] 99)) (w.heap.size + 1) #[.int .i64 0, .string ⟨#[]⟩, .string ⟨#[]⟩, .string ⟨#[]⟩, .bool false, .int .i64 0, .string ⟨#[]⟩, .string ⟨#[97, 47, 120, 47]⟩] 99 := by have h := Blk.new (w.alloc (.cells #[.int .i64 0, .string ⟨#[]⟩, .string ⟨#[]⟩, .string ⟨#[]⟩, .bool false, .int .i64 0, .string ⟨#[]⟩] 33)) #[.int .i64 0, .string ⟨#[]⟩, .string ⟨#[]⟩, .string ⟨#[]⟩, .bool false, .int .i64 0, .string ⟨#[]⟩, .string ⟨#[97, 47, 120, 47]⟩] 99; rw [World.size_alloc] at h; exact h
  replace BR := BR.reach (Reach.alloc (Reach.refl _) (.cells #[.int .i64 0, .string ⟨#[]⟩, .string ⟨#[]⟩, .string ⟨#[]⟩, .bool false, .int .i64 0, .string ⟨#[]⟩, .string ⟨#[97, 47, 120, 47]⟩] 99))
  have Q : Reach w _ := Reach.alloc (Reach.alloc (Reach.refl w) (.cells #[.int .i64 0, .string ⟨#[]⟩, .string ⟨#[]⟩, .string ⟨#[]⟩, .bool false, .int .i64 0, .string ⟨#[]⟩] 33)) (.cells #[.int .i64 0, .string ⟨#[]⟩, .string ⟨#[]⟩, .string ⟨#[]⟩, .bool false, .int .i64 0, .string ⟨#[]⟩, .string ⟨#[97, 47, 120, 47]⟩] 99)
  generalize (w.alloc (.cells #[.int .i64 0, .string ⟨#[]⟩, .string ⟨#[]⟩, .string ⟨#[]⟩, .bool false, .int .i64 0, .string ⟨#[]⟩] 33)).alloc (.cells #[.int .i64 0, .string ⟨#[]⟩, .string ⟨#[]⟩, .string ⟨#[]⟩, .bool false, .int .i64 0, .string ⟨#[]⟩, .string ⟨#[97, 47, 120, 47]⟩] 99) = W0 at BR BC Q ⊢
  have hng : NG ≤ w.heap.size + 1 := Nat.le_trans HE.out.size (Nat.le_succ _)
  (with_reducible refine Calls.mono (chost2_calls _ W0 BC (Env.reach HE.out Q) hng) ?_)
  clear BC
  rintro e W2 ⟨rfl, K, BC⟩
  replace BR := BR.keep K (by simp)
  replace Q := Keep.toReach K Q (Nat.le_succ _)
  clear K
  obtain ⟨⟨x0_0, x0_1, x0_2, x0_3, x0_4, x0_5, x0_6⟩, y0_0, y0_1, y0_2, y0_3, y0_4, y0_5, y0_6⟩ := BR.sevenf
  have xl0 := BR.lt
  obtain ⟨⟨x1_0, x1_1, x1_2, x1_3, x1_4, x1_5, x1_6, x1_7⟩, y1_0, y1_1, y1_2, y1_3, y1_4, y1_5, y1_6, y1_7⟩ := BC.eightf
  have xl1 := BC.lt
  go_wp2_with fail
  clear x0_0 x0_1 x0_2 x0_3 x0_4 x0_5 x0_6 y0_0 y0_1 y0_2 y0_3 y0_4 y0_5 y0_6 xl0 x1_0 x1_1 x1_2 x1_3 x1_4 x1_5 x1_6 x1_7 y1_0 y1_1 y1_2 y1_3 y1_4 y1_5 y1_6 y1_7 xl1
  (with_reducible refine Calls.mono (sright12_calls 97 [] false [47, 120, 47] _ (by decide) (by decide) (by decide +kernel) (by decide +kernel) (Env.reach HE.out Q)) ?_)
  rintro e W3 ⟨rfl, hr⟩
  replace BR := BR.reach hr
  replace BC := BC.reach hr
  replace Q := Reach.trans Q hr
  clear hr
  obtain ⟨⟨x0_0, x0_1, x0_2, x0_3, x0_4, x0_5, x0_6⟩, y0_0, y0_1, y0_2, y0_3, y0_4, y0_5, y0_6⟩ := BR.sevenf
  have xl0 := BR.lt
  obtain ⟨⟨x1_0, x1_1, x1_2, x1_3, x1_4, x1_5, x1_6, x1_7⟩, y1_0, y1_1, y1_2, y1_3, y1_4, y1_5, y1_6, y1_7⟩ := BC.eightf
  have xl1 := BC.lt
  go_wp2_with fail
  clear x0_0 x0_1 x0_2 x0_3 x0_4 x0_5 x0_6 y0_0 y0_1 y0_2 y0_3 y0_4 y0_5 y0_6 xl0 x1_0 x1_1 x1_2 x1_3 x1_4 x1_5 x1_6 x1_7 y1_0 y1_1 y1_2 y1_3 y1_4 y1_5 y1_6 y1_7 xl1
  have BR1 := (((((((BR.put 0 (.int .i64 12)).put 1 (.string ⟨#[]⟩)).put 2 (.string ⟨#[]⟩)).put 3 (.string ⟨#[97]⟩)).put 4 (.bool false)).put 5 (.int .i64 0)).put 6 (.string ⟨#[47, 120, 47]⟩))
  obtain ⟨r0, r1, r2, r3, r4, r5, r6⟩ := BR1.seven
  refine bodyPost_ret (v := .tuple #[.agg #[.int .i64 12, .string ⟨#[]⟩, .string ⟨#[]⟩, .string ⟨#[97]⟩, .bool false, .int .i64 0, .string ⟨#[47, 120, 47]⟩], .bool true]) (by simp [results, Tryz.results95, go_sem, r0, r1, r2, r3, r4, r5, r6]) rfl ⟨rfl, ?_⟩
  exact Reach.setCell (Reach.setCell (Reach.setCell (Reach.setCell (Reach.setCell (Reach.setCell (Reach.setCell Q (by simp) _) (by simp) _) (by simp) _) (by simp) _) (by simp) _) (by simp) _) (by simp) _
set_option maxRecDepth 100000 in
set_option maxHeartbeats 4000000 in
theorem sparse3_calls (w : World) (hE : Env w) : Calls Tryz.prog 95 #[.string ⟨#[97, 47, 120]⟩] w fun e w' => e = .returned (.tuple #[.agg #[.int .i64 12, .string ⟨#[]⟩, .string ⟨#[]⟩, .string ⟨#[97]⟩, .bool false, .int .i64 0, .string ⟨#[47, 120]⟩], .bool true]) ∧ Reach w w' := by
  have HE := Lib.hid hE
  clear hE
  go_enter Tryz.func95, Tryz.ntmps95
  go_wp2_with fail
  have BR : Blk (w.alloc (.cells #[.int .i64 0, .string ⟨#[]⟩, .string ⟨#[]⟩, .string ⟨#[]⟩, .bool false, .int .i64 0, .string ⟨#[]⟩] 33)) (w.heap.size) #[.int .i64 0, .string ⟨#[]⟩, .string ⟨#[]⟩, .string ⟨#[]⟩, .bool false, .int .i64 0, .string ⟨#[]⟩] 33 := by have h := Blk.new w #[.int .i64 0, .string ⟨#[]⟩, .string ⟨#[]⟩, .string ⟨#[]⟩, .bool false, .int .i64 0, .string ⟨#[]⟩] 33; exact h
  have BC : Blk ((w.alloc (.cells #[.int .i64 0, .string ⟨#[]⟩, .string ⟨#[]⟩, .string ⟨#[]⟩, .bool false, .int .i64 0, .string ⟨#[]⟩] 33)).alloc (.cells #[.int .i64 0, .string ⟨#[]⟩, .string ⟨#[]⟩, .string ⟨#[]⟩, .bool false, .int .i64 0, .string ⟨#[]⟩, .string ⟨#[97, 47, 120]⟩] 99)) (w.heap.size + 1) #[.int .i64 0, .string ⟨#[]⟩, .string ⟨#[]⟩, .string ⟨#[]⟩, .bool false, .int .i64 0, .string ⟨#[]⟩, .string ⟨#[97, 47, 120]⟩] 99 := by have h := Blk.new (w.alloc (.cells #[.int .i64 0, .string ⟨#[]⟩, .string ⟨#[]⟩, .string ⟨#[]⟩, .bool false, .int .i64 0, .string ⟨#[]⟩] 33)) #[.int .i64 0, .string ⟨#[]⟩, .string ⟨#[]⟩, .string ⟨#[]⟩, .bool false, .int .i64 0, .string ⟨#[]⟩, .string ⟨#[97, 47, 120]⟩] 99; rw [World.size_alloc] at h; exact h
  replace BR := BR.reach (Reach.alloc (Reach.refl _) (.cells #[.int .i64 0, .string ⟨#[]⟩, .string ⟨#[]⟩, .string ⟨#[]⟩, .bool false, .int .i64 0, .string ⟨#[]⟩, .string ⟨#[97, 47, 120]⟩] 99))
  have Q : Reach w _ := Reach.alloc (Reach.alloc (Reach.refl w) (.cells #[.int .i64 0, .string ⟨#[]⟩, .string ⟨#[]⟩, .string ⟨#[]⟩, .bool false, .int .i64 0, .string ⟨#[]⟩] 33)) (.cells #[.int .i64 0, .string ⟨#[]⟩, .string ⟨#[]⟩, .string ⟨#[]⟩, .bool false, .int .i64 0, .string ⟨#[]⟩, .string ⟨#[97, 47, 120]⟩] 99)
  generalize (w.alloc (.cells #[.int .i64 0, .string ⟨#[]⟩, .string ⟨#[]⟩, .string ⟨#[]⟩, .bool false, .int .i64 0, .string ⟨#[]⟩] 33)).alloc (.cells #[.int .i64 0, .string ⟨#[]⟩, .string ⟨#[]⟩, .string ⟨#[]⟩, .bool false, .int .i64 0, .string ⟨#[]⟩, .string ⟨#[97, 47, 120]⟩] 99) = W0 at BR BC Q ⊢
  have hng : NG ≤ w.heap.size + 1 := Nat.le_trans HE.out.size (Nat.le_succ _)
  (with_reducible refine Calls.mono (chost3_calls _ W0 BC (Env.reach HE.out Q) hng) ?_)
  clear BC
  rintro e W2 ⟨rfl, K, BC⟩
  replace BR := BR.keep K (by simp)
  replace Q := Keep.toReach K Q (Nat.le_succ _)
  clear K
  obtain ⟨⟨x0_0, x0_1, x0_2, x0_3, x0_4, x0_5, x0_6⟩, y0_0, y0_1, y0_2, y0_3, y0_4, y0_5, y0_6⟩ := BR.sevenf
  have xl0 := BR.lt
  obtain ⟨⟨x1_0, x1_1, x1_2, x1_3, x1_4, x1_5, x1_6, x1_7⟩, y1_0, y1_1, y1_2, y1_3, y1_4, y1_5, y1_6, y1_7⟩ := BC.eightf
  have xl1 := BC.lt
  go_wp2_with fail
  clear x0_0 x0_1 x0_2 x0_3 x0_4 x0_5 x0_6 y0_0 y0_1 y0_2 y0_3 y0_4 y0_5 y0_6 xl0 x1_0 x1_1 x1_2 x1_3 x1_4 x1_5 x1_6 x1_7 y1_0 y1_1 y1_2 y1_3 y1_4 y1_5 y1_6 y1_7 xl1
  (with_reducible refine Calls.mono (sright12_calls 97 [] false [47, 120] _ (by decide) (by decide) (by decide +kernel) (by decide +kernel) (Env.reach HE.out Q)) ?_)
  rintro e W3 ⟨rfl, hr⟩
  replace BR := BR.reach hr
  replace BC := BC.reach hr
  replace Q := Reach.trans Q hr
  clear hr
  obtain ⟨⟨x0_0, x0_1, x0_2, x0_3, x0_4, x0_5, x0_6⟩, y0_0, y0_1, y0_2, y0_3, y0_4, y0_5, y0_6⟩ := BR.sevenf
  have xl0 := BR.lt
  obtain ⟨⟨x1_0, x1_1, x1_2, x1_3, x1_4, x1_5, x1_6, x1_7⟩, y1_0, y1_1, y1_2, y1_3, y1_4, y1_5, y1_6, y1_7⟩ := BC.eightf
  have xl1 := BC.lt
  go_wp2_with fail
  clear x0_0 x0_1 x0_2 x0_3 x0_4 x0_5 x0_6 y0_0 y0_1 y0_2 y0_3 y0_4 y0_5 y0_6 xl0 x1_0 x1_1 x1_2 x1_3 x1_4 x1_5 x1_6 x1_7 y1_0 y1_1 y1_2 y1_3 y1_4 y1_5 y1_6 y1_7 xl1
  have BR1 := (((((((BR.put 0 (.int .i64 12)).put 1 (.string ⟨#[]⟩)).put 2 (.string ⟨#[]⟩)).put 3 (.string ⟨#[97]⟩)).put 4 (.bool false)).put 5 (.int .i64 0)).put 6 (.string ⟨#[47, 120]⟩))
  obtain ⟨r0, r1, r2, r3, r4, r5, r6⟩ := BR1.seven
  refine bodyPost_ret (v := .tuple #[.agg #[.int .i64 12, .string ⟨#[]⟩, .string ⟨#[]⟩, .string ⟨#[97]⟩, .bool false, .int .i64 0, .string ⟨#[47, 120]⟩], .bool true]) (by simp [results, Tryz.results95, go_sem, r0, r1, r2, r3, r4, r5, r6]) rfl ⟨rfl, ?_⟩
  exact Reach.setCell (Reach.setCell (Reach.setCell (Reach.setCell (Reach.setCell (Reach.setCell (Reach.setCell Q (by simp) _) (by simp) _) (by simp) _) (by simp) _) (by simp) _) (by simp) _) (by simp) _
set_option maxRecDepth 100000 in
set_option maxHeartbeats 4000000 in
theorem sparse4_calls (w : World) (hE : Env w) (hK : KeptIs w) : Calls Tryz.prog 95 #[.string ⟨#[39, 115, 101, 108, 102, 39]⟩] w fun e w' => e = .returned (.tuple #[.agg #[.int .i64 2, .string ⟨#[]⟩, .string ⟨#[]⟩, .string ⟨#[]⟩, .bool false, .int .i64 0, .string ⟨#[]⟩], .bool true]) ∧ Reach w w' := by
  have HE := Lib.hid hE
  clear hE
  go_enter Tryz.func95, Tryz.ntmps95
  go_wp2_with fail
  have BR : Blk (w.alloc (.cells #[.int .i64 0, .string ⟨#[]⟩, .string ⟨#[]⟩, .string ⟨#[]⟩, .bool false, .int .i64 0, .string ⟨#[]⟩] 33)) (w.heap.size) #[.int .i64 0, .string ⟨#[]⟩, .string ⟨#[]⟩, .string ⟨#[]⟩, .bool false, .int .i64 0, .string ⟨#[]⟩] 33 := by have h := Blk.new w #[.int .i64 0, .string ⟨#[]⟩, .string ⟨#[]⟩, .string ⟨#[]⟩, .bool false, .int .i64 0, .string ⟨#[]⟩] 33; exact h
  have BC : Blk ((w.alloc (.cells #[.int .i64 0, .string ⟨#[]⟩, .string ⟨#[]⟩, .string ⟨#[]⟩, .bool false, .int .i64 0, .string ⟨#[]⟩] 33)).alloc (.cells #[.int .i64 0, .string ⟨#[]⟩, .string ⟨#[]⟩, .string ⟨#[]⟩, .bool false, .int .i64 0, .string ⟨#[]⟩, .string ⟨#[39, 115, 101, 108, 102, 39]⟩] 99)) (w.heap.size + 1) #[.int .i64 0, .string ⟨#[]⟩, .string ⟨#[]⟩, .string ⟨#[]⟩, .bool false, .int .i64 0, .string ⟨#[]⟩, .string ⟨#[39, 115, 101, 108, 102, 39]⟩] 99 := by have h := Blk.new (w.alloc (.cells #[.int .i64 0, .string ⟨#[]⟩, .string ⟨#[]⟩, .string ⟨#[]⟩, .bool false, .int .i64 0, .string ⟨#[]⟩] 33)) #[.int .i64 0, .string ⟨#[]⟩, .string ⟨#[]⟩, .string ⟨#[]⟩, .bool false, .int .i64 0, .string ⟨#[]⟩, .string ⟨#[39, 115, 101, 108, 102, 39]⟩] 99; rw [World.size_alloc] at h; exact h
  replace BR := BR.reach (Reach.alloc (Reach.refl _) (.cells #[.int .i64 0, .string ⟨#[]⟩, .string ⟨#[]⟩, .string ⟨#[]⟩, .bool false, .int .i64 0, .string ⟨#[]⟩, .string ⟨#[39, 115, 101, 108, 102, 39]⟩] 99))
  have Q : Reach w _ := Reach.alloc (Reach.alloc (Reach.refl w) (.cells #[.int .i64 0, .string ⟨#[]⟩, .string ⟨#[]⟩, .string ⟨#[]⟩, .bool false, .int .i64 0, .string ⟨#[]⟩] 33)) (.cells #[.int .i64 0, .string ⟨#[]⟩, .string ⟨#[]⟩, .string ⟨#[]⟩, .bool false, .int .i64 0, .string ⟨#[]⟩, .string ⟨#[39, 115, 101, 108, 102, 39]⟩] 99)
  generalize (w.alloc (.cells #[.int .i64 0, .string ⟨#[]⟩, .string ⟨#[]⟩, .string ⟨#[]⟩, .bool false, .int .i64 0, .string ⟨#[]⟩] 33)).alloc (.cells #[.int .i64 0, .string ⟨#[]⟩, .string ⟨#[]⟩, .string ⟨#[]⟩, .bool false, .int .i64 0, .string ⟨#[]⟩, .string ⟨#[39, 115, 101, 108, 102, 39]⟩] 99) = W0 at BR BC Q ⊢
  have hng : NG ≤ w.heap.size + 1 := Nat.le_trans HE.out.size (Nat.le_succ _)
  (with_reducible refine Calls.mono (cquoted_calls _ W0 BC (Env.reach HE.out Q) (hK.reach Q) hng) ?_)
  clear BC
  rintro e W2 ⟨rfl, K, BC⟩
  replace BR := BR.keep K (by simp)
  replace Q := Keep.toReach K Q (Nat.le_succ _)
  clear K
  obtain ⟨⟨x0_0, x0_1, x0_2, x0_3, x0_4, x0_5, x0_6⟩, y0_0, y0_1, y0_2, y0_3, y0_4, y0_5, y0_6⟩ := BR.sevenf
  have xl0 := BR.lt
  obtain ⟨⟨x1_0, x1_1, x1_2, x1_3, x1_4, x1_5, x1_6, x1_7⟩, y1_0, y1_1, y1_2, y1_3, y1_4, y1_5, y1_6, y1_7⟩ := BC.eightf
  have xl1 := BC.lt
  go_wp2_with fail
  clear x0_0 x0_1 x0_2 x0_3 x0_4 x0_5 x0_6 y0_0 y0_1 y0_2 y0_3 y0_4 y0_5 y0_6 xl0 x1_0 x1_1 x1_2 x1_3 x1_4 x1_5 x1_6 x1_7 y1_0 y1_1 y1_2 y1_3 y1_4 y1_5 y1_6 y1_7 xl1
  (with_reducible refine Calls.mono (sright2_calls _) ?_)
  rintro e W3 ⟨rfl, hr⟩
  replace BR := BR.reach hr
  replace BC := BC.reach hr
  replace Q := Reach.trans Q hr
  clear hr
  obtain ⟨⟨x0_0, x0_1, x0_2, x0_3, x0_4, x0_5, x0_6⟩, y0_0, y0_1, y0_2, y0_3, y0_4, y0_5, y0_6⟩ := BR.sevenf
  have xl0 := BR.lt
  obtain ⟨⟨x1_0, x1_1, x1_2, x1_3, x1_4, x1_5, x1_6, x1_7⟩, y1_0, y1_1, y1_2, y1_3, y1_4, y1_5, y1_6, y1_7⟩ := BC.eightf
  have xl1 := BC.lt
  go_wp2_with fail
  clear x0_0 x0_1 x0_2 x0_3 x0_4 x0_5 x0_6 y0_0 y0_1 y0_2 y0_3 y0_4 y0_5 y0_6 xl0 x1_0 x1_1 x1_2 x1_3 x1_4 x1_5 x1_6 x1_7 y1_0 y1_1 y1_2 y1_3 y1_4 y1_5 y1_6 y1_7 xl1
  have BR1 := (((((((BR.put 0 (.int .i64 2)).put 1 (.string ⟨#[]⟩)).put 2 (.string ⟨#[]⟩)).put 3 (.string ⟨#[]⟩)).put 4 (.bool false)).put 5 (.int .i64 0)).put 6 (.string ⟨#[]⟩))
  obtain ⟨r0, r1, r2, r3, r4, r5, r6⟩ := BR1.seven
  refine bodyPost_ret (v := .tuple #[.agg #[.int .i64 2, .string ⟨#[]⟩, .string ⟨#[]⟩, .string ⟨#[]⟩, .bool false, .int .i64 0, .string ⟨#[]⟩], .bool true]) (by simp [results, Tryz.results95, go_sem, r0, r1, r2, r3, r4, r5, r6]) rfl ⟨rfl, ?_⟩
  exact Reach.setCell (Reach.setCell (Reach.setCell (Reach.setCell (Reach.setCell (Reach.setCell (Reach.setCell Q (by simp) _) (by simp) _) (by simp) _) (by simp) _) (by simp) _) (by simp) _) (by simp) _
set_option maxRecDepth 100000 in
set_option maxHeartbeats 4000000 in
theorem sparse5_calls (w : World) (hE : Env w) : Calls Tryz.prog 95 #[.string ⟨#[100, 97, 116, 97, 58]⟩] w fun e w' => e = .returned (.tuple #[.agg #[.int .i64 11, .string ⟨#[]⟩, .string ⟨#[100, 97, 116, 97]⟩, .string ⟨#[]⟩, .bool false, .int .i64 0, .string ⟨#[]⟩], .bool true]) ∧ Reach w w' := by
  have h4 := fun W => lower_calls [100, 97, 116, 97] W (by decide)
  rw [show lowerL [100, 97, 116, 97] = [100, 97, 116, 97] by decide +kernel] at h4
  have H4 := Lib.hid h4
  clear h4
  have HE := Lib.hid hE
  clear hE
  go_enter Tryz.func95, Tryz.ntmps95
  go_wp2_with fail
  have BR : Blk (w.alloc (.cells #[.int .i64 0, .string ⟨#[]⟩, .string ⟨#[]⟩, .string ⟨#[]⟩, .bool false, .int .i64 0, .string ⟨#[]⟩] 33)) (w.heap.size) #[.int .i64 0, .string ⟨#[]⟩, .string ⟨#[]⟩, .string ⟨#[]⟩, .bool false, .int .i64 0, .string ⟨#[]⟩] 33 := by have h := Blk.new w #[.int .i64 0, .string ⟨#[]⟩, .string ⟨#[]⟩, .string ⟨#[]⟩, .bool false, .int .i64 0, .string ⟨#[]⟩] 33; exact h
  have BC : Blk ((w.alloc (.cells #[.int .i64 0, .string ⟨#[]⟩, .string ⟨#[]⟩, .string ⟨#[]⟩, .bool false, .int .i64 0, .string ⟨#[]⟩] 33)).alloc (.cells #[.int .i64 0, .string ⟨#[]⟩, .string ⟨#[]⟩, .string ⟨#[]⟩, .bool false, .int .i64 0, .string ⟨#[]⟩, .string ⟨#[100, 97, 116, 97, 58]⟩] 99)) (w.heap.size + 1) #[.int .i64 0, .string ⟨#[]⟩, .string ⟨#[]⟩, .string ⟨#[]⟩, .bool false, .int .i64 0, .string ⟨#[]⟩, .string ⟨#[100, 97, 116, 97, 58]⟩] 99 := by have h := Blk.new (w.alloc (.cells #[.int .i64 0, .string ⟨#[]⟩, .string ⟨#[]⟩, .string ⟨#[]⟩, .bool false, .int .i64 0, .string ⟨#[]⟩] 33)) #[.int .i64 0, .string ⟨#[]⟩, .string ⟨#[]⟩, .string ⟨#[]⟩, .bool false, .int .i64 0, .string ⟨#[]⟩, .string ⟨#[100, 97, 116, 97, 58]⟩] 99; rw [World.size_alloc] at h; exact h
  replace BR := BR.reach (Reach.alloc (Reach.refl _) (.cells #[.int .i64 0, .string ⟨#[]⟩, .string ⟨#[]⟩, .string ⟨#[]⟩, .bool false, .int .i64 0, .string ⟨#[]⟩, .string ⟨#[100, 97, 116, 97, 58]⟩] 99))
  have Q : Reach w _ := Reach.alloc (Reach.alloc (Reach.refl w) (.cells #[.int .i64 0, .string ⟨#[]⟩, .string ⟨#[]⟩, .string ⟨#[]⟩, .bool false, .int .i64 0, .string ⟨#[]⟩] 33)) (.cells #[.int .i64 0, .string ⟨#[]⟩, .string ⟨#[]⟩, .string ⟨#[]⟩, .bool false, .int .i64 0, .string ⟨#[]⟩, .string ⟨#[100, 97, 116, 97, 58]⟩] 99)
  generalize (w.alloc (.cells #[.int .i64 0, .string ⟨#[]⟩, .string ⟨#[]⟩, .string ⟨#[]⟩, .bool false, .int .i64 0, .string ⟨#[]⟩] 33)).alloc (.cells #[.int .i64 0, .string ⟨#[]⟩, .string ⟨#[]⟩, .string ⟨#[]⟩, .bool false, .int .i64 0, .string ⟨#[]⟩, .string ⟨#[100, 97, 116, 97, 58]⟩] 99) = W0 at BR BC Q ⊢
  have hng : NG ≤ w.heap.size + 1 := Nat.le_trans HE.out.size (Nat.le_succ _)
  (with_reducible refine Calls.mono (H4.out _) ?_)
  rintro e W1 ⟨rfl, hr⟩
  replace BR := BR.reach hr
  replace BC := BC.reach hr
  replace Q := Reach.trans Q hr
  clear hr
  obtain ⟨⟨x0_0, x0_1, x0_2, x0_3, x0_4, x0_5, x0_6⟩, y0_0, y0_1, y0_2, y0_3, y0_4, y0_5, y0_6⟩ := BR.sevenf
  have xl0 := BR.lt
  obtain ⟨⟨x1_0, x1_1, x1_2, x1_3, x1_4, x1_5, x1_6, x1_7⟩, y1_0, y1_1, y1_2, y1_3, y1_4, y1_5, y1_6, y1_7⟩ := BC.eightf
  have xl1 := BC.lt
  go_wp2_with fail
  clear x0_0 x0_1 x0_2 x0_3 x0_4 x0_5 x0_6 y0_0 y0_1 y0_2 y0_3 y0_4 y0_5 y0_6 xl0 x1_0 x1_1 x1_2 x1_3 x1_4 x1_5 x1_6 x1_7 y1_0 y1_1 y1_2 y1_3 y1_4 y1_5 y1_6 y1_7 xl1
  replace BC := BC.put 0 (.int .i64 11)
  replace BR := BR.set ⟨w.heap.size + 1, 0, none⟩ (by first | (simp; done) | (simp; omega)) (.int .i64 11)
  replace Q := Reach.setCell (p := ⟨w.heap.size + 1, 0, none⟩) Q (by first | (simp; done) | (simp; omega)) (.int .i64 11)
  replace BC := BC.put 2 (.string ⟨#[100, 97, 116, 97]⟩)
  replace BR := BR.set ⟨w.heap.size + 1, 2, none⟩ (by first | (simp; done) | (simp; omega)) (.string ⟨#[100, 97, 116, 97]⟩)
  replace Q := Reach.setCell (p := ⟨w.heap.size + 1, 2, none⟩) Q (by first | (simp; done) | (simp; omega)) (.string ⟨#[100, 97, 116, 97]⟩)
  generalize (W1.setCell ⟨w.heap.size + 1, 0, none⟩ (.int .i64 11)).setCell ⟨w.heap.size + 1, 2, none⟩ (.string ⟨#[100, 97, 116, 97]⟩) = W2 at BC BR Q ⊢
  obtain ⟨⟨x0_0, x0_1, x0_2, x0_3, x0_4, x0_5, x0_6⟩, y0_0, y0_1, y0_2, y0_3, y0_4, y0_5, y0_6⟩ := BR.sevenf
  have xl0 := BR.lt
  obtain ⟨⟨x1_0, x1_1, x1_2, x1_3, x1_4, x1_5, x1_6, x1_7⟩, y1_0, y1_1, y1_2, y1_3, y1_4, y1_5, y1_6, y1_7⟩ := BC.eightf
  have xl1 := BC.lt
  go_wp2_with fail
  clear x0_0 x0_1 x0_2 x0_3 x0_4 x0_5 x0_6 y0_0 y0_1 y0_2 y0_3 y0_4 y0_5 y0_6 xl0 x1_0 x1_1 x1_2 x1_3 x1_4 x1_5 x1_6 x1_7 y1_0 y1_1 y1_2 y1_3 y1_4 y1_5 y1_6 y1_7 xl1
  (with_reducible refine Calls.mono (sright11_calls [100, 97, 116, 97] _ (by decide) (by decide +kernel) (Env.reach HE.out Q)) ?_)
  rintro e W3 ⟨rfl, hr⟩
  replace BR := BR.reach hr
  replace BC := BC.reach hr
  replace Q := Reach.trans Q hr
  clear hr
  obtain ⟨⟨x0_0, x0_1, x0_2, x0_3, x0_4, x0_5, x0_6⟩, y0_0, y0_1, y0_2, y0_3, y0_4, y0_5, y0_6⟩ := BR.sevenf
  have xl0 := BR.lt
  obtain ⟨⟨x1_0, x1_1, x1_2, x1_3, x1_4, x1_5, x1_6, x1_7⟩, y1_0, y1_1, y1_2, y1_3, y1_4, y1_5, y1_6, y1_7⟩ := BC.eightf
  have xl1 := BC.lt
  go_wp2_with fail
  clear x0_0 x0_1 x0_2 x0_3 x0_4 x0_5 x0_6 y0_0 y0_1 y0_2 y0_3 y0_4 y0_5 y0_6 xl0 x1_0 x1_1 x1_2 x1_3 x1_4 x1_5 x1_6 x1_7 y1_0 y1_1 y1_2 y1_3 y1_4 y1_5 y1_6 y1_7 xl1
  have BR1 := (((((((BR.put 0 (.int .i64 11)).put 1 (.string ⟨#[]⟩)).put 2 (.string ⟨#[100, 97, 116, 97]⟩)).put 3 (.string ⟨#[]⟩)).put 4 (.bool false)).put 5 (.int .i64 0)).put 6 (.string ⟨#[]⟩))
  obtain ⟨r0, r1, r2, r3, r4, r5, r6⟩ := BR1.seven
  refine bodyPost_ret (v := .tuple #[.agg #[.int .i64 11, .string ⟨#[]⟩, .string ⟨#[100, 97, 116, 97]⟩, .string ⟨#[]⟩, .bool false, .int .i64 0, .string ⟨#[]⟩], .bool true]) (by simp [results, Tryz.results95, go_sem, r0, r1, r2, r3, r4, r5, r6]) rfl ⟨rfl, ?_⟩
  exact Reach.setCell (Reach.setCell (Reach.setCell (Reach.setCell (Reach.setCell (Reach.setCell (Reach.setCell Q (by simp) _) (by simp) _) (by simp) _) (by simp) _) (by simp) _) (by simp) _) (by simp) _
end Go.Proofs.YtbeaheicjopooaaGreatDoor
