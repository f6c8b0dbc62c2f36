/- What package source's right answers of the sources of the examples. -/
import Derived.Test.YtbeaheicjopooaaGreatDoorProg
import Derived.Test.YtbeaheicjopooaaGreatDoorSrc
import Derived.Test.YtbeaheicjopooaaGreatDoorMatch
namespace Go.Proofs.YtbeaheicjopooaaGreatDoor
open Go.RowKit Go.Sort
attribute [local go_sem] get_mk mk_append mk_extract0 mk_extract_end mk_extract_cons empty_mk cell_grow frozen_grow size_grow
attribute [local go_sem ↓] run_eql_src run_neq_src
set_option maxRecDepth 100000 in
set_option maxHeartbeats 1000000 in
theorem sright2_calls (w : World) : Calls Tryz.prog 123 #[.agg #[.int .i64 2, .string ⟨#[]⟩, .string ⟨#[]⟩, .string ⟨#[]⟩, .bool false, .int .i64 0, .string ⟨#[]⟩]] w fun e w' => e = .returned (.bool true) ∧ Reach w w' := by
  have hu := srcEq_self ⟨2, [], [], [], false, 0, []⟩
  go_enter Tryz.func123, Tryz.ntmps123
  go_wp2_with (first | ((with_reducible refine wp_region_quiet_below (by kernel_rfl) (by kernel_rfl) ?_); (repeat (any_goals (first | (go_big_quiet_step (fail)) | (quiet_step (fail)) | (refine wpQuiet_step (fun K hK => ?_); go_simp; split <;> (refine hK _ ?_; clear hK K))))); all_goals (refine wpQuiet_nil ?_; intro _ hw'; obtain ⟨⟨dq, osq⟩, hw''⟩ := hw'; subst hw'')))
  go_ret
  exact ⟨rfl, by (repeat (first | (with_reducible assumption) | (with_reducible exact Reach.refl _) | (with_reducible refine Reach.alloc ?_ _) | (with_reducible refine Reach.drew ?_) | (with_reducible refine Reach.drewN ?_ _) | (with_reducible refine Reach.grow ?_ _ _) | (with_reducible refine Reach.setCell ?_ ?_ _) | (with_reducible refine Reach.trans ?_ (by with_reducible assumption)) | (show _ ≤ Addr.block _; first | (exact Nat.le_refl _) | (show (_ : Nat) ≤ _; omega)) | (simp; done) | (simp; omega)))⟩
set_option maxRecDepth 100000 in
set_option maxHeartbeats 1000000 in
theorem sright11_calls (s : List UInt8) (w : World) (hs : s.length ≤ 1000000) (hb : schemeB s = true) (hE : Env w) : Calls Tryz.prog 123 #[.agg #[.int .i64 11, .string ⟨#[]⟩, .string ⟨s.toArray⟩, .string ⟨#[]⟩, .bool false, .int .i64 0, .string ⟨#[]⟩]] w fun e w' => e = .returned (.bool true) ∧ Reach w w' := by
  have hu := srcEq_self ⟨11, [], s, [], false, 0, []⟩
  have hc := fun W (hE : Env W) => sscheme_calls s W hs hE
  rw [hb] at hc
  have HE := Lib.hid hE
  have HS := Lib.hid hc
  clear hc hE hb
  go_enter Tryz.func123, Tryz.ntmps123
  go_wp2_with fail
  have BS : Blk (w.alloc (.cells #[.int .i64 11, .string ⟨#[]⟩, .string ⟨s.toArray⟩, .string ⟨#[]⟩, .bool false, .int .i64 0, .string ⟨#[]⟩] 33)) (w.heap.size) #[.int .i64 11, .string ⟨#[]⟩, .string ⟨s.toArray⟩, .string ⟨#[]⟩, .bool false, .int .i64 0, .string ⟨#[]⟩] 33 := by have h := Blk.new w #[.int .i64 11, .string ⟨#[]⟩, .string ⟨s.toArray⟩, .string ⟨#[]⟩, .bool false, .int .i64 0, .string ⟨#[]⟩] 33; exact h
  have BX : Blk ((w.alloc (.cells #[.int .i64 11, .string ⟨#[]⟩, .string ⟨s.toArray⟩, .string ⟨#[]⟩, .bool false, .int .i64 0, .string ⟨#[]⟩] 33)).alloc (.cells #[.int .i64 11, .string ⟨#[]⟩, .string ⟨s.toArray⟩, .string ⟨#[]⟩, .bool false, .int .i64 0, .string ⟨#[]⟩] 33)) (w.heap.size + 1) #[.int .i64 11, .string ⟨#[]⟩, .string ⟨s.toArray⟩, .string ⟨#[]⟩, .bool false, .int .i64 0, .string ⟨#[]⟩] 33 := by have h := Blk.new (w.alloc (.cells #[.int .i64 11, .string ⟨#[]⟩, .string ⟨s.toArray⟩, .string ⟨#[]⟩, .bool false, .int .i64 0, .string ⟨#[]⟩] 33)) #[.int .i64 11, .string ⟨#[]⟩, .string ⟨s.toArray⟩, .string ⟨#[]⟩, .bool false, .int .i64 0, .string ⟨#[]⟩] 33; rw [World.size_alloc] at h; exact h
  replace BS := BS.reach (Reach.alloc (Reach.refl _) (.cells #[.int .i64 11, .string ⟨#[]⟩, .string ⟨s.toArray⟩, .string ⟨#[]⟩, .bool false, .int .i64 0, .string ⟨#[]⟩] 33))
  have Q : Reach w _ := Reach.alloc (Reach.alloc (Reach.refl w) (.cells #[.int .i64 11, .string ⟨#[]⟩, .string ⟨s.toArray⟩, .string ⟨#[]⟩, .bool false, .int .i64 0, .string ⟨#[]⟩] 33)) (.cells #[.int .i64 11, .string ⟨#[]⟩, .string ⟨s.toArray⟩, .string ⟨#[]⟩, .bool false, .int .i64 0, .string ⟨#[]⟩] 33)
  generalize (w.alloc (.cells #[.int .i64 11, .string ⟨#[]⟩, .string ⟨s.toArray⟩, .string ⟨#[]⟩, .bool false, .int .i64 0, .string ⟨#[]⟩] 33)).alloc (.cells #[.int .i64 11, .string ⟨#[]⟩, .string ⟨s.toArray⟩, .string ⟨#[]⟩, .bool false, .int .i64 0, .string ⟨#[]⟩] 33) = W0 at BS BX Q ⊢
  (with_reducible refine Calls.mono (HS.out _ (Env.reach HE.out Q)) ?_)
  rintro e W1 ⟨rfl, hr⟩
  replace BS := BS.reach hr
  replace BX := BX.reach hr
  replace Q := Reach.trans Q hr
  clear hr
  obtain ⟨x0_0, x0_1, x0_2, x0_3, x0_4, x0_5, x0_6⟩ := BS.seven
  have xl0 := BS.lt
  obtain ⟨x1_0, x1_1, x1_2, x1_3, x1_4, x1_5, x1_6⟩ := BX.seven
  have xl1 := BX.lt
  go_wp2_with fail
  clear x0_0 x0_1 x0_2 x0_3 x0_4 x0_5 x0_6 xl0 x1_0 x1_1 x1_2 x1_3 x1_4 x1_5 x1_6 xl1
  go_ret
  exact ⟨rfl, Q⟩
set_option maxRecDepth 100000 in
set_option maxHeartbeats 1000000 in
theorem sright12_calls (x : UInt8) (xs : List UInt8) (wd : Bool) (pa : List UInt8) (w : World) (hl : (x :: xs).length ≤ 1000000) (hp : pa.length ≤ 1000000) (hh : hostOk (x :: xs) = true) (hpa : srcPath pa = true) (hE : Env w) :
    Calls Tryz.prog 123 #[.agg #[.int .i64 12, .string ⟨#[]⟩, .string ⟨#[]⟩, .string ⟨(x :: xs).toArray⟩, .bool wd, .int .i64 0, .string ⟨pa.toArray⟩]] w fun e w' => e = .returned (.bool true) ∧ Reach w w' := by
  have hu := srcEq_self ⟨12, [], [], x :: xs, wd, 0, pa⟩
  have hc := fun W (hE : Env W) => shost_calls (x :: xs) W hl hE
  rw [hh] at hc
  have hq := fun W => spath_calls pa W hp
  rw [hpa] at hq
  have HE := Lib.hid hE
  have HH := Lib.hid hc
  have HPA := Lib.hid hq
  clear hc hE hh hq hpa
  go_enter Tryz.func123, Tryz.ntmps123
  go_wp2_with fail
  have BS : Blk (w.alloc (.cells #[.int .i64 12, .string ⟨#[]⟩, .string ⟨#[]⟩, .string ⟨(x :: xs).toArray⟩, .bool wd, .int .i64 0, .string ⟨pa.toArray⟩] 33)) (w.heap.size) #[.int .i64 12, .string ⟨#[]⟩, .string ⟨#[]⟩, .string ⟨(x :: xs).toArray⟩, .bool wd, .int .i64 0, .string ⟨pa.toArray⟩] 33 := by have h := Blk.new w #[.int .i64 12, .string ⟨#[]⟩, .string ⟨#[]⟩, .string ⟨(x :: xs).toArray⟩, .bool wd, .int .i64 0, .string ⟨pa.toArray⟩] 33; exact h
  have BX : Blk ((w.alloc (.cells #[.int .i64 12, .string ⟨#[]⟩, .string ⟨#[]⟩, .string ⟨(x :: xs).toArray⟩, .bool wd, .int .i64 0, .string ⟨pa.toArray⟩] 33)).alloc (.cells #[.int .i64 12, .string ⟨#[]⟩, .string ⟨#[]⟩, .string ⟨(x :: xs).toArray⟩, .bool wd, .int .i64 0, .string ⟨pa.toArray⟩] 33)) (w.heap.size + 1) #[.int .i64 12, .string ⟨#[]⟩, .string ⟨#[]⟩, .string ⟨(x :: xs).toArray⟩, .bool wd, .int .i64 0, .string ⟨pa.toArray⟩] 33 := by have h := Blk.new (w.alloc (.cells #[.int .i64 12, .string ⟨#[]⟩, .string ⟨#[]⟩, .string ⟨(x :: xs).toArray⟩, .bool wd, .int .i64 0, .string ⟨pa.toArray⟩] 33)) #[.int .i64 12, .string ⟨#[]⟩, .string ⟨#[]⟩, .string ⟨(x :: xs).toArray⟩, .bool wd, .int .i64 0, .string ⟨pa.toArray⟩] 33; rw [World.size_alloc] at h; exact h
  replace BS := BS.reach (Reach.alloc (Reach.refl _) (.cells #[.int .i64 12, .string ⟨#[]⟩, .string ⟨#[]⟩, .string ⟨(x :: xs).toArray⟩, .bool wd, .int .i64 0, .string ⟨pa.toArray⟩] 33))
  have Q : Reach w _ := Reach.alloc (Reach.alloc (Reach.refl w) (.cells #[.int .i64 12, .string ⟨#[]⟩, .string ⟨#[]⟩, .string ⟨(x :: xs).toArray⟩, .bool wd, .int .i64 0, .string ⟨pa.toArray⟩] 33)) (.cells #[.int .i64 12, .string ⟨#[]⟩, .string ⟨#[]⟩, .string ⟨(x :: xs).toArray⟩, .bool wd, .int .i64 0, .string ⟨pa.toArray⟩] 33)
  generalize (w.alloc (.cells #[.int .i64 12, .string ⟨#[]⟩, .string ⟨#[]⟩, .string ⟨(x :: xs).toArray⟩, .bool wd, .int .i64 0, .string ⟨pa.toArray⟩] 33)).alloc (.cells #[.int .i64 12, .string ⟨#[]⟩, .string ⟨#[]⟩, .string ⟨(x :: xs).toArray⟩, .bool wd, .int .i64 0, .string ⟨pa.toArray⟩] 33) = W0 at BS BX Q ⊢
  (with_reducible refine Calls.mono (HH.out _ (Env.reach HE.out Q)) ?_)
  rintro e W1 ⟨rfl, hr⟩
  replace BS := BS.reach hr
  replace BX := BX.reach hr
  replace Q := Reach.trans Q hr
  clear hr
  obtain ⟨x0_0, x0_1, x0_2, x0_3, x0_4, x0_5, x0_6⟩ := BS.seven
  have xl0 := BS.lt
  obtain ⟨x1_0, x1_1, x1_2, x1_3, x1_4, x1_5, x1_6⟩ := BX.seven
  have xl1 := BX.lt
  go_wp2_with (first | (go_at_call 146; (with_reducible refine Calls.mono (HPA.out _) ?_); rintro e w' ⟨rfl, rfl⟩))
  clear x0_0 x0_1 x0_2 x0_3 x0_4 x0_5 x0_6 xl0 x1_0 x1_1 x1_2 x1_3 x1_4 x1_5 x1_6 xl1
  go_ret
  exact ⟨rfl, Q⟩
end Go.Proofs.YtbeaheicjopooaaGreatDoor
