/- What package match's Url answers; texts of at most a million bytes. -/
import Derived.Test.YtbeaheicjopooaaGreatDoorProg
import Derived.Test.YtbeaheicjopooaaGreatDoorMatch
namespace Go.Proofs.YtbeaheicjopooaaGreatDoor
open Go.RowKit Go.Sort
attribute [local go_sem] get_mk mk_append mk_extract0 mk_extract_end mk_extract_cons empty_mk cell_grow frozen_grow size_grow
/-- A function value that is asked: its number, what it captured, what it answers. -/
structure Fv where
  fn : Nat
  caps : Array Value
  ans : Bool
def Fv.val (f : Fv) : Value := .func (.func f.fn) #[] f.caps
def Fv.ok (w : World) (f : Fv) : Prop := Enters Tryz.prog f.fn ∧ ∀ W, Reach w W → Calls Tryz.prog f.fn f.caps W fun e W' => e = .returned (.bool f.ans) ∧ Reach W W'
theorem all_take_succ (fs : List Fv) (k : Nat) (h : k < fs.length) : ((fs.take (k + 1)).all (·.ans)) = (((fs.take k).all (·.ans)) && fs[k].ans) := by
  rw [List.take_succ_eq_append_getElem h, List.all_append]
  simp
theorem all_no (fs : List Fv) (k : Nat) (h : k < fs.length) (hb : fs[k].ans = false) : (fs.all (·.ans)) = false := by
  rw [List.all_eq_false]
  exact ⟨fs[k], List.getElem_mem h, by simp [hb]⟩
set_option maxRecDepth 100000 in
set_option maxHeartbeats 1000000 in
theorem mall_calls (fs : List Fv) (B : Nat) (t : TypeId) (w : World) (hb : Blk w B (fs.map Fv.val).toArray t) (hl : fs.length ≤ 1000) (hall : ∀ f ∈ fs, f.ok w) :
    Calls Tryz.prog 62 #[.slice (some ⟨B, 0, none⟩) fs.length fs.length] w fun e w' => e = .returned (.bool (fs.all (·.ans))) ∧ Reach w w' := by
  have HA := Lib.hid hall
  have HB := Lib.hid hb
  clear hall hb
  go_enter Tryz.func62, Tryz.ntmps62
  go_wp2_with fail
  go_loopw [4, 7] (fun _ i wr => ∃ k : Nat, k ≤ fs.length ∧ i = .int .i64 k ∧ RowKit.Hid (Reach w wr) ∧ RowKit.Hid (((fs.take k).all (·.ans)) = true)) (fun _ i _ => fs.length - (intOf i).toNat)
  case atStart => exact ⟨0, Nat.zero_le _, rfl, Reach.refl _, rfl⟩
  case round =>
    obtain ⟨k, hk, rfl, hre, hal⟩ := hrel
    by_cases hlt : k < fs.length
    · obtain ⟨hent, hcall⟩ := HA.out fs[k] (List.getElem_mem hlt)
      have hcell : wr.cell? ⟨B, 0 + k, none⟩ = some fs[k].val := by
        rw [Nat.zero_add, (HB.out.reach hre.out).cell]
        simp [hlt]
      have hcell0 : wr.cell? ⟨B, k, none⟩ = some fs[k].val := by rw [Nat.zero_add] at hcell; exact hcell
      have hs := all_take_succ fs k hlt
      have hn := all_no fs k hlt
      have HS := Lib.hid hs
      have HN := Lib.hid hn
      clear hs hn
      unfold Fv.val at hcell hcell0
      generalize hfn : fs[k].fn = g at *
      generalize hfc : fs[k].caps = caps at *
      have HC := Lib.hid (hcall wr hre.out)
      have eg : ∀ args w, (callFunc g args).run Tryz.prog w = .ok (.enter g args) w := hent
      clear hcall hfn hfc hent
      cases hans : fs[k].ans
      · rw [hans] at HC
        have HN2 := Lib.hid (HN.out hans)
        clear hans
        go_wp2_with (go_at_fn g; refine HC.out.mono ?_; rintro e w' ⟨rfl, hr⟩)
        go_ret
        exact ⟨ret_bool HN2.out.symm, hre.out.trans hr⟩
      · rw [hans] at HC HS
        clear hans
        go_wp2_with (go_at_fn g; refine HC.out.mono ?_; rintro e w' ⟨rfl, hr⟩)
        go_roundw
        case rel => exact ⟨k + 1, by omega, by go_num, hre.out.trans hr, by rw [HS.out, hal.out]; rfl⟩
        case measure => simp [intOf]; omega
    · obtain rfl : k = fs.length := by omega
      have h2 := hal.out
      rw [List.take_length] at h2
      have H2 := Lib.hid h2
      clear h2
      go_wp2_with fail
      go_ret
      exact ⟨ret_bool H2.out.symm, hre.out⟩
set_option maxRecDepth 100000 in
set_option maxHeartbeats 1000000 in
theorem mc1_calls (B : Nat) (u0 : Bool) (u1 u2 : List UInt8) (u3 : Int) (u4 u5 : List UInt8) (w : World) (hB : Blk w B #[.bool u0, .string ⟨u1.toArray⟩, .string ⟨u2.toArray⟩, .int .i64 u3, .string ⟨u4.toArray⟩, .string ⟨u5.toArray⟩] 23) (a1u : -9223372036854775808 ≤ u3) (a2u : u3 ≤ 9223372036854775807) (b1u : u1.length ≤ 1000000) (b2u : u2.length ≤ 1000000) (b4u : u4.length ≤ 1000000) (b5u : u5.length ≤ 1000000) (hE : Env w) :
    Calls Tryz.prog 60 #[.pointer (some ⟨B, 0, none⟩)] w fun e w' => e = .returned (.bool (checkB ⟨u0, u1, u2, u3, u4, u5⟩)) ∧ Reach w w' := by
  have hx := fun W (hE : Env W) => check_calls u0 u1 u2 u3 u4 u5 W a1u a2u b1u b2u b4u b5u hE
  have HE := Lib.hid hE
  clear hE
  cases hck : checkB ⟨u0, u1, u2, u3, u4, u5⟩
  all_goals
    simp only [checkE, hck, Bool.false_eq_true, if_false, if_true] at hx
    have HX := Lib.hid hx
    clear hx hck
    go_enter Tryz.func60, Tryz.ntmps60
    have Q := Reach.refl w
    obtain ⟨x0_0, x0_1, x0_2, x0_3, x0_4, x0_5⟩ := hB.six
    have xl0 := hB.lt
    go_wp2_with fail
    clear x0_0 x0_1 x0_2 x0_3 x0_4 x0_5 xl0
    (with_reducible refine Calls.mono (HX.out _ (Env.reach HE.out Q)) ?_)
    rintro e W1 ⟨rfl, hr⟩
    replace Q := Reach.trans Q hr
    clear hr
    go_wp2_with fail
    go_ret
    exact ⟨rfl, Q⟩
set_option maxRecDepth 100000 in
set_option maxHeartbeats 1000000 in
theorem mc2_calls (BT B : Nat) (told : List UInt8) (u0 : Bool) (u1 u2 : List UInt8) (u3 : Int) (u4 u5 : List UInt8) (w : World) (htl : told.length ≤ 1000000) (hT : Blk w BT #[.string ⟨told.toArray⟩] 9) (hB : Blk w B #[.bool u0, .string ⟨u1.toArray⟩, .string ⟨u2.toArray⟩, .int .i64 u3, .string ⟨u4.toArray⟩, .string ⟨u5.toArray⟩] 23) :
    Calls Tryz.prog 61 #[.pointer (some ⟨BT, 0, none⟩), .pointer (some ⟨B, 0, none⟩)] w fun e w' => e = .returned (.bool (schM told u1)) ∧ Reach w w' := by
  go_enter Tryz.func61, Tryz.ntmps61
  have Q := Reach.refl w
  obtain ⟨x0_0, y0_0⟩ := hT.one
  have xl0 := hT.lt
  obtain ⟨x1_0, x1_1, x1_2, x1_3, x1_4, x1_5⟩ := hB.six
  have xl1 := hB.lt
  go_wp2_with (first | (go_at_call 19; (with_reducible refine Calls.mono (mscheme_calls _ _ _ (by first | (with_reducible assumption) | omega | (simp; done) | (simp; omega))) ?_); rintro e w' ⟨rfl, rfl⟩))
  clear x0_0 xl0 y0_0 x1_0 x1_1 x1_2 x1_3 x1_4 x1_5 xl1
  go_ret
  exact ⟨rfl, Q⟩
set_option maxRecDepth 100000 in
set_option maxHeartbeats 1000000 in
theorem mc3_calls (B : Nat) (u0 : Bool) (u1 u2 : List UInt8) (u3 : Int) (u4 u5 : List UInt8) (w : World) (hB : Blk w B #[.bool u0, .string ⟨u1.toArray⟩, .string ⟨u2.toArray⟩, .int .i64 u3, .string ⟨u4.toArray⟩, .string ⟨u5.toArray⟩] 23) :
    Calls Tryz.prog 63 #[.pointer (some ⟨B, 0, none⟩)] w fun e w' => e = .returned (.bool (!u0)) ∧ Reach w w' := by
  cases u0
  all_goals
    go_enter Tryz.func63, Tryz.ntmps63
    have Q := Reach.refl w
    obtain ⟨x0_0, x0_1, x0_2, x0_3, x0_4, x0_5⟩ := hB.six
    have xl0 := hB.lt
    go_wp2_with fail
    clear x0_0 x0_1 x0_2 x0_3 x0_4 x0_5 xl0
    go_ret
    exact ⟨rfl, Q⟩
set_option maxRecDepth 100000 in
set_option maxHeartbeats 1000000 in
theorem mc4_calls (BS B : Nat) (k : Int) (t s h : List UInt8) (wd : Bool) (p : Int) (pa : List UInt8) (u0 : Bool) (u1 u2 : List UInt8) (u3 : Int) (u4 u5 : List UInt8) (w : World) (hS : Blk w BS #[.int .i64 k, .string ⟨t.toArray⟩, .string ⟨s.toArray⟩, .string ⟨h.toArray⟩, .bool wd, .int .i64 p, .string ⟨pa.toArray⟩] 33) (hB : Blk w B #[.bool u0, .string ⟨u1.toArray⟩, .string ⟨u2.toArray⟩, .int .i64 u3, .string ⟨u4.toArray⟩, .string ⟨u5.toArray⟩] 23) (h1 : h.length ≤ 1000000) (h2 : u2.length ≤ 1000000) :
    Calls Tryz.prog 64 #[.pointer (some ⟨BS, 0, none⟩), .pointer (some ⟨B, 0, none⟩)] w fun e w' => e = .returned (.bool (hostM wd h u2)) ∧ Reach w w' := by
  have HC := Lib.hid (fun W => mhost_calls k t s h wd p pa u2 W h1 h2)
  go_enter Tryz.func64, Tryz.ntmps64
  have Q := Reach.refl w
  obtain ⟨x0_0, x0_1, x0_2, x0_3, x0_4, x0_5, x0_6⟩ := hS.seven
  have xl0 := hS.lt
  obtain ⟨x1_0, x1_1, x1_2, x1_3, x1_4, x1_5⟩ := hB.six
  have xl1 := hB.lt
  go_wp2_with fail
  clear x0_0 x0_1 x0_2 x0_3 x0_4 x0_5 x0_6 xl0 x1_0 x1_1 x1_2 x1_3 x1_4 x1_5 xl1
  (with_reducible refine Calls.mono (HC.out _) ?_)
  rintro e W1 ⟨rfl, hr⟩
  replace Q := Reach.trans Q hr
  clear hr
  go_wp2_with fail
  go_ret
  exact ⟨rfl, Q⟩
set_option maxRecDepth 100000 in
set_option maxHeartbeats 1000000 in
theorem mc5_calls (BS B : Nat) (k : Int) (t s h : List UInt8) (wd : Bool) (p : Int) (pa : List UInt8) (u0 : Bool) (u1 u2 : List UInt8) (u3 : Int) (u4 u5 : List UInt8) (w : World) (hS : Blk w BS #[.int .i64 k, .string ⟨t.toArray⟩, .string ⟨s.toArray⟩, .string ⟨h.toArray⟩, .bool wd, .int .i64 p, .string ⟨pa.toArray⟩] 33) (hB : Blk w B #[.bool u0, .string ⟨u1.toArray⟩, .string ⟨u2.toArray⟩, .int .i64 u3, .string ⟨u4.toArray⟩, .string ⟨u5.toArray⟩] 23) :
    Calls Tryz.prog 65 #[.pointer (some ⟨BS, 0, none⟩), .pointer (some ⟨B, 0, none⟩)] w fun e w' => e = .returned (.bool (portM p ⟨u0, u1, u2, u3, u4, u5⟩)) ∧ Reach w w' := by
  have HC := Lib.hid (fun W => mportM_calls k t s h wd p pa u0 u1 u2 u3 u4 u5 W)
  go_enter Tryz.func65, Tryz.ntmps65
  have Q := Reach.refl w
  obtain ⟨x0_0, x0_1, x0_2, x0_3, x0_4, x0_5, x0_6⟩ := hS.seven
  have xl0 := hS.lt
  obtain ⟨x1_0, x1_1, x1_2, x1_3, x1_4, x1_5⟩ := hB.six
  have xl1 := hB.lt
  go_wp2_with fail
  (with_reducible refine Calls.mono (HC.out _) ?_)
  rintro e W1 ⟨rfl, hr⟩
  replace Q := Reach.trans Q hr
  clear hr
  go_wp2_with fail
  go_ret
  exact ⟨rfl, Q⟩
set_option maxRecDepth 100000 in
set_option maxHeartbeats 1000000 in
theorem mc6_calls (BS B BM : Nat) (k : Int) (t s h : List UInt8) (wd : Bool) (p : Int) (pa : List UInt8) (u0 : Bool) (u1 u2 : List UInt8) (u3 : Int) (u4 u5 : List UInt8) (moved : Bool) (w : World) (hS : Blk w BS #[.int .i64 k, .string ⟨t.toArray⟩, .string ⟨s.toArray⟩, .string ⟨h.toArray⟩, .bool wd, .int .i64 p, .string ⟨pa.toArray⟩] 33) (hB : Blk w B #[.bool u0, .string ⟨u1.toArray⟩, .string ⟨u2.toArray⟩, .int .i64 u3, .string ⟨u4.toArray⟩, .string ⟨u5.toArray⟩] 23) (hM : Blk w BM #[.bool moved] 4) (h1 : pa.length ≤ 1000000) (h2 : u4.length ≤ 1000000) :
    Calls Tryz.prog 66 #[.pointer (some ⟨BS, 0, none⟩), .pointer (some ⟨B, 0, none⟩), .pointer (some ⟨BM, 0, none⟩)] w fun e w' => e = .returned (.bool (pathM pa u4 moved)) ∧ Reach w w' := by
  have HC := Lib.hid (fun W => mpath_calls pa u4 moved W h1 h2)
  go_enter Tryz.func66, Tryz.ntmps66
  have Q := Reach.refl w
  obtain ⟨x0_0, x0_1, x0_2, x0_3, x0_4, x0_5, x0_6⟩ := hS.seven
  have xl0 := hS.lt
  obtain ⟨x1_0, x1_1, x1_2, x1_3, x1_4, x1_5⟩ := hB.six
  have xl1 := hB.lt
  obtain ⟨x2_0, y2_0⟩ := hM.one
  have xl2 := hM.lt
  go_wp2_with fail
  clear x0_0 x0_1 x0_2 x0_3 x0_4 x0_5 x0_6 xl0 x1_0 x1_1 x1_2 x1_3 x1_4 x1_5 xl1 x2_0 xl2 y2_0
  (with_reducible refine Calls.mono (HC.out _) ?_)
  rintro e W1 ⟨rfl, hr⟩
  replace Q := Reach.trans Q hr
  clear hr
  go_wp2_with fail
  go_ret
  exact ⟨rfl, Q⟩
set_option maxRecDepth 100000 in
set_option maxHeartbeats 2000000 in
theorem mc7_calls (B BO : Nat) (u0 : Bool) (u1 u2 : List UInt8) (u3 : Int) (u4 u5 : List UInt8) (v0 : Bool) (v1 v2 : List UInt8) (v3 : Int) (v4 v5 : List UInt8) (w : World) (hB : Blk w B #[.bool u0, .string ⟨u1.toArray⟩, .string ⟨u2.toArray⟩, .int .i64 u3, .string ⟨u4.toArray⟩, .string ⟨u5.toArray⟩] 23) (hO : Blk w BO #[.bool v0, .string ⟨v1.toArray⟩, .string ⟨v2.toArray⟩, .int .i64 v3, .string ⟨v4.toArray⟩, .string ⟨v5.toArray⟩] 23) :
    Calls Tryz.prog 67 #[.pointer (some ⟨B, 0, none⟩), .pointer (some ⟨BO, 0, none⟩)] w fun e w' => e = .returned (.bool (plainM ⟨u0, u1, u2, u3, u4, u5⟩ ⟨v0, v1, v2, v3, v4, v5⟩)) ∧ Reach w w' := by
  unfold plainM
  simp only
  cases u0
  rotate_left
  · go_enter Tryz.func67, Tryz.ntmps67
    have Q := Reach.refl w
    obtain ⟨x0_0, x0_1, x0_2, x0_3, x0_4, x0_5⟩ := hB.six
    have xl0 := hB.lt
    obtain ⟨x1_0, x1_1, x1_2, x1_3, x1_4, x1_5⟩ := hO.six
    have xl1 := hO.lt
    go_wp2_with fail
    clear x0_0 x0_1 x0_2 x0_3 x0_4 x0_5 xl0 x1_0 x1_1 x1_2 x1_3 x1_4 x1_5 xl1
    go_ret
    exact ⟨ret_bool (by simp), Q⟩
  cases v0
  rotate_left
  · go_enter Tryz.func67, Tryz.ntmps67
    have Q := Reach.refl w
    obtain ⟨x0_0, x0_1, x0_2, x0_3, x0_4, x0_5⟩ := hB.six
    have xl0 := hB.lt
    obtain ⟨x1_0, x1_1, x1_2, x1_3, x1_4, x1_5⟩ := hO.six
    have xl1 := hO.lt
    go_wp2_with fail
    clear x0_0 x0_1 x0_2 x0_3 x0_4 x0_5 xl0 x1_0 x1_1 x1_2 x1_3 x1_4 x1_5 xl1
    go_ret
    exact ⟨ret_bool (by simp), Q⟩
  cases hu : (u3 == 0)
  · go_enter Tryz.func67, Tryz.ntmps67
    have Q := Reach.refl w
    obtain ⟨x0_0, x0_1, x0_2, x0_3, x0_4, x0_5⟩ := hB.six
    have xl0 := hB.lt
    obtain ⟨x1_0, x1_1, x1_2, x1_3, x1_4, x1_5⟩ := hO.six
    have xl1 := hO.lt
    go_wp2_with fail
    clear x0_0 x0_1 x0_2 x0_3 x0_4 x0_5 xl0 x1_0 x1_1 x1_2 x1_3 x1_4 x1_5 xl1
    go_ret
    exact ⟨ret_bool (by simp), Q⟩
  cases hv : (v3 == 0)
  · go_enter Tryz.func67, Tryz.ntmps67
    have Q := Reach.refl w
    obtain ⟨x0_0, x0_1, x0_2, x0_3, x0_4, x0_5⟩ := hB.six
    have xl0 := hB.lt
    obtain ⟨x1_0, x1_1, x1_2, x1_3, x1_4, x1_5⟩ := hO.six
    have xl1 := hO.lt
    go_wp2_with fail
    clear x0_0 x0_1 x0_2 x0_3 x0_4 x0_5 xl0 x1_0 x1_1 x1_2 x1_3 x1_4 x1_5 xl1
    go_ret
    exact ⟨ret_bool (by simp), Q⟩
  · go_enter Tryz.func67, Tryz.ntmps67
    have Q := Reach.refl w
    obtain ⟨x0_0, x0_1, x0_2, x0_3, x0_4, x0_5⟩ := hB.six
    have xl0 := hB.lt
    obtain ⟨x1_0, x1_1, x1_2, x1_3, x1_4, x1_5⟩ := hO.six
    have xl1 := hO.lt
    go_wp2_with fail
    clear x0_0 x0_1 x0_2 x0_3 x0_4 x0_5 xl0 x1_0 x1_1 x1_2 x1_3 x1_4 x1_5 xl1
    go_ret
    exact ⟨ret_bool (by simp), Q⟩
set_option maxRecDepth 100000 in
set_option maxHeartbeats 1000000 in
theorem mc8_calls (BO B : Nat) (v0 : Bool) (v1 v2 : List UInt8) (v3 : Int) (v4 v5 : List UInt8) (u0 : Bool) (u1 u2 : List UInt8) (u3 : Int) (u4 u5 : List UInt8) (w : World) (hO : Blk w BO #[.bool v0, .string ⟨v1.toArray⟩, .string ⟨v2.toArray⟩, .int .i64 v3, .string ⟨v4.toArray⟩, .string ⟨v5.toArray⟩] 23) (hB : Blk w B #[.bool u0, .string ⟨u1.toArray⟩, .string ⟨u2.toArray⟩, .int .i64 u3, .string ⟨u4.toArray⟩, .string ⟨u5.toArray⟩] 23) (a1v : -9223372036854775808 ≤ v3) (a2v : v3 ≤ 9223372036854775807) (b1v : v1.length ≤ 1000000) (b2v : v2.length ≤ 1000000) (b4v : v4.length ≤ 1000000) (b5v : v5.length ≤ 1000000) (hE : Env w) :
    Calls Tryz.prog 68 #[.pointer (some ⟨BO, 0, none⟩), .pointer (some ⟨B, 0, none⟩)] w fun e w' => e = .returned (.bool (checkB ⟨v0, v1, v2, v3, v4, v5⟩ && schM v1 u1)) ∧ Reach w w' := by
  have hx := fun W (hE : Env W) => check_calls v0 v1 v2 v3 v4 v5 W a1v a2v b1v b2v b4v b5v hE
  have HE := Lib.hid hE
  clear hE
  cases hck : checkB ⟨v0, v1, v2, v3, v4, v5⟩
  all_goals
    simp only [checkE, hck, Bool.false_eq_true, if_false, if_true] at hx
    have HX := Lib.hid hx
    clear hx hck
    go_enter Tryz.func68, Tryz.ntmps68
    have Q := Reach.refl w
    obtain ⟨x0_0, x0_1, x0_2, x0_3, x0_4, x0_5⟩ := hO.six
    have xl0 := hO.lt
    obtain ⟨x1_0, x1_1, x1_2, x1_3, x1_4, x1_5⟩ := hB.six
    have xl1 := hB.lt
    go_wp2_with fail
    clear x0_0 x0_1 x0_2 x0_3 x0_4 x0_5 xl0 x1_0 x1_1 x1_2 x1_3 x1_4 x1_5 xl1
    (with_reducible refine Calls.mono (HX.out _ (Env.reach HE.out Q)) ?_)
    rintro e W1 ⟨rfl, hr⟩
    replace hO := hO.reach hr
    replace hB := hB.reach hr
    replace Q := Reach.trans Q hr
    clear hr
    obtain ⟨x0_0, x0_1, x0_2, x0_3, x0_4, x0_5⟩ := hO.six
    have xl0 := hO.lt
    obtain ⟨x1_0, x1_1, x1_2, x1_3, x1_4, x1_5⟩ := hB.six
    have xl1 := hB.lt
    go_wp2_with (first | (go_at_call 19; (with_reducible refine Calls.mono (mscheme_calls _ _ _ (by first | (with_reducible assumption) | omega | (simp; done) | (simp; omega))) ?_); rintro e w' ⟨rfl, rfl⟩))
    clear x0_0 x0_1 x0_2 x0_3 x0_4 x0_5 xl0 x1_0 x1_1 x1_2 x1_3 x1_4 x1_5 xl1
    go_ret
    exact ⟨ret_bool (by simp), Q⟩
end Go.Proofs.YtbeaheicjopooaaGreatDoor
