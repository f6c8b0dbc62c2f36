/- The law MatchWilder, walked. -/
import Derived.Test.YtbeaheicjopooaaGreatDoorProg
import Derived.Test.YtbeaheicjopooaaGreatDoorLets
import Derived.Test.YtbeaheicjopooaaGreatDoorRsRight
namespace Go.Proofs.YtbeaheicjopooaaGreatDoor
open Go.RowKit Go.Sort
attribute [local go_sem] get_mk mk_append mk_extract0 mk_extract_end mk_extract_cons empty_mk cell_grow frozen_grow size_grow
set_option maxRecDepth 100000 in
set_option maxHeartbeats 4000000 in
theorem matchwilder_calls (host ahead : List UInt8) (w : World) (hE : Env w) (hK : KeptIs w) : Calls Tryz.prog 10 #[.string ⟨host.toArray⟩, .string ⟨ahead.toArray⟩] w fun e w' => e = .returned (.bool true) ∧ Reach w w' := by
  have HE := Lib.hid hE
  have HK := Lib.hid hK
  clear hE hK
  by_cases la : (200 : Int) < host.length
  · have da : decide ((200 : Int) < host.length) = true := by simpa using la
    clear la
    go_enter Tryz.func10, Tryz.ntmps10
    go_wp2_with fail
    go_ret
    exact ⟨rfl, by (repeat (first | (with_reducible assumption) | (with_reducible exact Reach.refl _) | (with_reducible refine Reach.alloc ?_ _) | (with_reducible refine Reach.drew ?_) | (with_reducible refine Reach.drewN ?_ _) | (with_reducible refine Reach.grow ?_ _ _) | (with_reducible refine Reach.setCell ?_ ?_ _) | (with_reducible refine Reach.trans ?_ (by with_reducible assumption)) | (show _ ≤ Addr.block _; first | (exact Nat.le_refl _) | (show (_ : Nat) ≤ _; omega)) | (simp; done) | (simp; omega)))⟩
  have da : decide ((200 : Int) < host.length) = false := by simpa using la
  by_cases lb : (200 : Int) < ahead.length
  · have db : decide ((200 : Int) < ahead.length) = true := by simpa using lb
    clear la lb
    go_enter Tryz.func10, Tryz.ntmps10
    go_wp2_with fail
    go_ret
    exact ⟨rfl, by (repeat (first | (with_reducible assumption) | (with_reducible exact Reach.refl _) | (with_reducible refine Reach.alloc ?_ _) | (with_reducible refine Reach.drew ?_) | (with_reducible refine Reach.drewN ?_ _) | (with_reducible refine Reach.grow ?_ _ _) | (with_reducible refine Reach.setCell ?_ ?_ _) | (with_reducible refine Reach.trans ?_ (by with_reducible assumption)) | (show _ ≤ Addr.block _; first | (exact Nat.le_refl _) | (show (_ : Nat) ≤ _; omega)) | (simp; done) | (simp; omega)))⟩
  have db : decide ((200 : Int) < ahead.length) = false := by simpa using lb
  cases host with
  | nil =>
    clear la lb
    go_enter Tryz.func10, Tryz.ntmps10
    go_wp2_with fail
    go_ret
    exact ⟨rfl, by (repeat (first | (with_reducible assumption) | (with_reducible exact Reach.refl _) | (with_reducible refine Reach.alloc ?_ _) | (with_reducible refine Reach.drew ?_) | (with_reducible refine Reach.drewN ?_ _) | (with_reducible refine Reach.grow ?_ _ _) | (with_reducible refine Reach.setCell ?_ ?_ _) | (with_reducible refine Reach.trans ?_ (by with_reducible assumption)) | (show _ ≤ Addr.block _; first | (exact Nat.le_refl _) | (show (_ : Nat) ≤ _; omega)) | (simp; done) | (simp; omega)))⟩
  | cons x xs =>
    obtain ⟨m1, m2, m3, m4⟩ := match_wilder (x :: xs) ahead (by simp)
    have h1 := fun W => mhost_calls 12 [] [] (x :: xs) true 0 [] (ahead ++ [46] ++ (x :: xs)) W (by omega) (by simp at la ⊢; omega)
    have h2 := fun W => mhost_calls 12 [] [] (x :: xs) true 0 [] (x :: xs) W (by omega) (by omega)
    have h3 := fun W => mhost_calls 12 [] [] (x :: xs) false 0 [] (x :: xs) W (by omega) (by omega)
    have h4 := fun W => mhost_calls 12 [] [] (x :: xs) false 0 [] (ahead ++ [46] ++ (x :: xs)) W (by omega) (by simp at la ⊢; omega)
    rw [m1] at h1
    rw [m2] at h2
    rw [m3] at h3
    rw [m4] at h4
    simp only [List.length_cons] at la lb
    clear m1 m2 m3 m4
    cases ahead with
    | nil =>
      rw [show (([] : List UInt8) != []) = false from rfl] at h1
      simp only [List.nil_append, List.singleton_append] at h1 h4
      have H1 := Lib.hid h1
      have H2 := Lib.hid h2
      have H3 := Lib.hid h3
      have H4 := Lib.hid h4
      clear h1 h2 h3 h4
      go_enter Tryz.func10, Tryz.ntmps10
      go_wp2_with fail
      have BS : Blk (w.alloc (.cells #[.int .i64 12, .string ⟨#[]⟩, .string ⟨#[]⟩, .string ⟨(x :: xs).toArray⟩, .bool true, .int .i64 0, .string ⟨#[]⟩] 33)) (w.heap.size) #[.int .i64 12, .string ⟨#[]⟩, .string ⟨#[]⟩, .string ⟨(x :: xs).toArray⟩, .bool true, .int .i64 0, .string ⟨#[]⟩] 33 := by have h := Blk.new w #[.int .i64 12, .string ⟨#[]⟩, .string ⟨#[]⟩, .string ⟨(x :: xs).toArray⟩, .bool true, .int .i64 0, .string ⟨#[]⟩] 33; exact h
      have BP : Blk ((w.alloc (.cells #[.int .i64 12, .string ⟨#[]⟩, .string ⟨#[]⟩, .string ⟨(x :: xs).toArray⟩, .bool true, .int .i64 0, .string ⟨#[]⟩] 33)).alloc (.cells #[.int .i64 12, .string ⟨#[]⟩, .string ⟨#[]⟩, .string ⟨(x :: xs).toArray⟩, .bool false, .int .i64 0, .string ⟨#[]⟩] 33)) (w.heap.size + 1) #[.int .i64 12, .string ⟨#[]⟩, .string ⟨#[]⟩, .string ⟨(x :: xs).toArray⟩, .bool false, .int .i64 0, .string ⟨#[]⟩] 33 := by have h := Blk.new (w.alloc (.cells #[.int .i64 12, .string ⟨#[]⟩, .string ⟨#[]⟩, .string ⟨(x :: xs).toArray⟩, .bool true, .int .i64 0, .string ⟨#[]⟩] 33)) #[.int .i64 12, .string ⟨#[]⟩, .string ⟨#[]⟩, .string ⟨(x :: xs).toArray⟩, .bool false, .int .i64 0, .string ⟨#[]⟩] 33; rw [World.size_alloc] at h; exact h
      replace BS := BS.reach (Reach.alloc (Reach.refl _) (.cells #[.int .i64 12, .string ⟨#[]⟩, .string ⟨#[]⟩, .string ⟨(x :: xs).toArray⟩, .bool false, .int .i64 0, .string ⟨#[]⟩] 33))
      have Q : Reach w _ := Reach.alloc (Reach.alloc (Reach.refl w) (.cells #[.int .i64 12, .string ⟨#[]⟩, .string ⟨#[]⟩, .string ⟨(x :: xs).toArray⟩, .bool true, .int .i64 0, .string ⟨#[]⟩] 33)) (.cells #[.int .i64 12, .string ⟨#[]⟩, .string ⟨#[]⟩, .string ⟨(x :: xs).toArray⟩, .bool false, .int .i64 0, .string ⟨#[]⟩] 33)
      generalize (w.alloc (.cells #[.int .i64 12, .string ⟨#[]⟩, .string ⟨#[]⟩, .string ⟨(x :: xs).toArray⟩, .bool true, .int .i64 0, .string ⟨#[]⟩] 33)).alloc (.cells #[.int .i64 12, .string ⟨#[]⟩, .string ⟨#[]⟩, .string ⟨(x :: xs).toArray⟩, .bool false, .int .i64 0, .string ⟨#[]⟩] 33) = W0 at BS BP Q ⊢
      (with_reducible refine Calls.mono (matches_calls _ (Env.reach HE.out Q) (KeptIs.reach HK.out Q)) ?_)
      rintro e W1 ⟨rfl, hr⟩
      replace BS := BS.reach hr
      replace BP := BP.reach hr
      replace Q := Reach.trans Q hr
      clear hr
      obtain ⟨x0_0, x0_1, x0_2, x0_3, x0_4, x0_5, x0_6⟩ := BS.seven
      have xl0 := BS.lt
      go_wp2_with fail
      clear x0_0 x0_1 x0_2 x0_3 x0_4 x0_5 x0_6 xl0
      (with_reducible refine Calls.mono (H1.out _) ?_)
      rintro e W2 ⟨rfl, hr⟩
      replace BS := BS.reach hr
      replace BP := BP.reach hr
      replace Q := Reach.trans Q hr
      clear hr
      obtain ⟨x0_0, x0_1, x0_2, x0_3, x0_4, x0_5, x0_6⟩ := BS.seven
      have xl0 := BS.lt
      go_wp2_with fail
      clear x0_0 x0_1 x0_2 x0_3 x0_4 x0_5 x0_6 xl0
      (with_reducible refine Calls.mono (H2.out _) ?_)
      rintro e W3 ⟨rfl, hr⟩
      replace BP := BP.reach hr
      replace Q := Reach.trans Q hr
      clear hr
      obtain ⟨x0_0, x0_1, x0_2, x0_3, x0_4, x0_5, x0_6⟩ := BP.seven
      have xl0 := BP.lt
      go_wp2_with fail
      clear x0_0 x0_1 x0_2 x0_3 x0_4 x0_5 x0_6 xl0
      (with_reducible refine Calls.mono (H3.out _) ?_)
      rintro e W4 ⟨rfl, hr⟩
      replace BP := BP.reach hr
      replace Q := Reach.trans Q hr
      clear hr
      obtain ⟨x0_0, x0_1, x0_2, x0_3, x0_4, x0_5, x0_6⟩ := BP.seven
      have xl0 := BP.lt
      go_wp2_with fail
      clear x0_0 x0_1 x0_2 x0_3 x0_4 x0_5 x0_6 xl0
      (with_reducible refine Calls.mono (H4.out _) ?_)
      rintro e W5 ⟨rfl, hr⟩
      replace Q := Reach.trans Q hr
      clear hr
      go_wp2_with fail
      go_ret
      exact ⟨rfl, Q⟩
    | cons c cs =>
      have lb2 : ¬ (200 : Int) < (cs.length : Int) + 1 := by simp only [List.length_cons] at lb; omega
      have lb3 : decide ((200 : Int) < (cs.length : Int) + 1) = false := by simpa using lb2
      clear lb db
      rw [show ((c :: cs : List UInt8) != []) = true from rfl] at h1
      simp only [List.append_assoc, List.cons_append, List.nil_append] at h1 h4
      have H1 := Lib.hid h1
      have H2 := Lib.hid h2
      have H3 := Lib.hid h3
      have H4 := Lib.hid h4
      clear h1 h2 h3 h4
      go_enter Tryz.func10, Tryz.ntmps10
      go_wp2_with fail
      have BS : Blk (w.alloc (.cells #[.int .i64 12, .string ⟨#[]⟩, .string ⟨#[]⟩, .string ⟨(x :: xs).toArray⟩, .bool true, .int .i64 0, .string ⟨#[]⟩] 33)) (w.heap.size) #[.int .i64 12, .string ⟨#[]⟩, .string ⟨#[]⟩, .string ⟨(x :: xs).toArray⟩, .bool true, .int .i64 0, .string ⟨#[]⟩] 33 := by have h := Blk.new w #[.int .i64 12, .string ⟨#[]⟩, .string ⟨#[]⟩, .string ⟨(x :: xs).toArray⟩, .bool true, .int .i64 0, .string ⟨#[]⟩] 33; exact h
      have BP : Blk ((w.alloc (.cells #[.int .i64 12, .string ⟨#[]⟩, .string ⟨#[]⟩, .string ⟨(x :: xs).toArray⟩, .bool true, .int .i64 0, .string ⟨#[]⟩] 33)).alloc (.cells #[.int .i64 12, .string ⟨#[]⟩, .string ⟨#[]⟩, .string ⟨(x :: xs).toArray⟩, .bool false, .int .i64 0, .string ⟨#[]⟩] 33)) (w.heap.size + 1) #[.int .i64 12, .string ⟨#[]⟩, .string ⟨#[]⟩, .string ⟨(x :: xs).toArray⟩, .bool false, .int .i64 0, .string ⟨#[]⟩] 33 := by have h := Blk.new (w.alloc (.cells #[.int .i64 12, .string ⟨#[]⟩, .string ⟨#[]⟩, .string ⟨(x :: xs).toArray⟩, .bool true, .int .i64 0, .string ⟨#[]⟩] 33)) #[.int .i64 12, .string ⟨#[]⟩, .string ⟨#[]⟩, .string ⟨(x :: xs).toArray⟩, .bool false, .int .i64 0, .string ⟨#[]⟩] 33; rw [World.size_alloc] at h; exact h
      replace BS := BS.reach (Reach.alloc (Reach.refl _) (.cells #[.int .i64 12, .string ⟨#[]⟩, .string ⟨#[]⟩, .string ⟨(x :: xs).toArray⟩, .bool false, .int .i64 0, .string ⟨#[]⟩] 33))
      have Q : Reach w _ := Reach.alloc (Reach.alloc (Reach.refl w) (.cells #[.int .i64 12, .string ⟨#[]⟩, .string ⟨#[]⟩, .string ⟨(x :: xs).toArray⟩, .bool true, .int .i64 0, .string ⟨#[]⟩] 33)) (.cells #[.int .i64 12, .string ⟨#[]⟩, .string ⟨#[]⟩, .string ⟨(x :: xs).toArray⟩, .bool false, .int .i64 0, .string ⟨#[]⟩] 33)
      generalize (w.alloc (.cells #[.int .i64 12, .string ⟨#[]⟩, .string ⟨#[]⟩, .string ⟨(x :: xs).toArray⟩, .bool true, .int .i64 0, .string ⟨#[]⟩] 33)).alloc (.cells #[.int .i64 12, .string ⟨#[]⟩, .string ⟨#[]⟩, .string ⟨(x :: xs).toArray⟩, .bool false, .int .i64 0, .string ⟨#[]⟩] 33) = W0 at BS BP Q ⊢
      (with_reducible refine Calls.mono (matches_calls _ (Env.reach HE.out Q) (KeptIs.reach HK.out Q)) ?_)
      rintro e W1 ⟨rfl, hr⟩
      replace BS := BS.reach hr
      replace BP := BP.reach hr
      replace Q := Reach.trans Q hr
      clear hr
      obtain ⟨x0_0, x0_1, x0_2, x0_3, x0_4, x0_5, x0_6⟩ := BS.seven
      have xl0 := BS.lt
      go_wp2_with fail
      clear x0_0 x0_1 x0_2 x0_3 x0_4 x0_5 x0_6 xl0
      (with_reducible refine Calls.mono (H1.out _) ?_)
      rintro e W2 ⟨rfl, hr⟩
      replace BS := BS.reach hr
      replace BP := BP.reach hr
      replace Q := Reach.trans Q hr
      clear hr
      obtain ⟨x0_0, x0_1, x0_2, x0_3, x0_4, x0_5, x0_6⟩ := BS.seven
      have xl0 := BS.lt
      go_wp2_with fail
      clear x0_0 x0_1 x0_2 x0_3 x0_4 x0_5 x0_6 xl0
      (with_reducible refine Calls.mono (H2.out _) ?_)
      rintro e W3 ⟨rfl, hr⟩
      replace BP := BP.reach hr
      replace Q := Reach.trans Q hr
      clear hr
      obtain ⟨x0_0, x0_1, x0_2, x0_3, x0_4, x0_5, x0_6⟩ := BP.seven
      have xl0 := BP.lt
      go_wp2_with fail
      clear x0_0 x0_1 x0_2 x0_3 x0_4 x0_5 x0_6 xl0
      (with_reducible refine Calls.mono (H3.out _) ?_)
      rintro e W4 ⟨rfl, hr⟩
      replace BP := BP.reach hr
      replace Q := Reach.trans Q hr
      clear hr
      obtain ⟨x0_0, x0_1, x0_2, x0_3, x0_4, x0_5, x0_6⟩ := BP.seven
      have xl0 := BP.lt
      go_wp2_with fail
      clear x0_0 x0_1 x0_2 x0_3 x0_4 x0_5 x0_6 xl0
      (with_reducible refine Calls.mono (H4.out _) ?_)
      rintro e W5 ⟨rfl, hr⟩
      replace Q := Reach.trans Q hr
      clear hr
      go_wp2_with fail
      go_ret
      exact ⟨rfl, Q⟩
end Go.Proofs.YtbeaheicjopooaaGreatDoor
