/- What the examples' own function answers: a text joined to one fixed address, printed. -/
import Derived.Test.YtbeaheicjopooaaGreatDoorProg
import Derived.Test.YtbeaheicjopooaaGreatDoorJoin
namespace Go.Proofs.YtbeaheicjopooaaGreatDoor
open Go.RowKit Go.Sort
attribute [local go_sem] get_mk mk_append mk_extract0 mk_extract_end mk_extract_cons empty_mk cell_grow frozen_grow size_grow
/-- The examples' address. -/
def baseX : URL := ⟨false, [104, 116, 116, 112], [97], 81, [47, 120, 47, 121], [63, 113]⟩
set_option maxRecDepth 100000 in
set_option maxHeartbeats 1000000 in
theorem at_calls (ref : List UInt8) (u : URL) (t : List UInt8) (hu : joinU baseX ref = u) (he : joinE baseX ref = 0) (hck : checkB u = true) (ht : textL u = t) (hb : u.sch.length ≤ 1000 ∧ u.host.length ≤ 1000 ∧ u.path.length ≤ 1000 ∧ u.query.length ≤ 1000 ∧ 0 ≤ u.port ∧ u.port ≤ 65535)
    (hr : ref.length ≤ 100000) (w : World) (hE : Env w) :
    Calls Tryz.prog 44 #[.string ⟨ref.toArray⟩] w fun e w' => e = .returned (.string ⟨t.toArray⟩) ∧ Reach w w' := by
  have hj := fun W (hE : Env W) => rsjoin_calls false [104, 116, 116, 112] [97] 81 [47, 120, 47, 121] [63, 113] ref W (by decide) (by decide) (by decide) (by decide) (by decide) (by decide) hr hE
  change ∀ W, Env W → Calls Tryz.prog 12 _ W fun e w' => e = .returned (.tuple #[urlV (joinU baseX ref), .int .i64 (joinE baseX ref)]) ∧ Reach W w' at hj
  rw [hu, he] at hj
  obtain ⟨u0, u1, u2, u3, u4, u5⟩ := u
  obtain ⟨b1, b2, b3, b4, b5, b6⟩ := hb
  simp only at b1 b2 b3 b4 b5 b6
  have hx := fun W (hE : Env W) => print_calls u0 u1 u2 u3 u4 u5 W (by omega) (by omega) (by omega) (by omega) (by omega) (by omega) hE
  simp only [printL, checkE, hck, if_true, ht] at hx
  unfold urlV at hj
  have HJ := Lib.hid hj
  have HX := Lib.hid hx
  have HE := Lib.hid hE
  clear hj hx hE hck hu he ht
  go_enter Tryz.func44, Tryz.ntmps44
  have Q := Reach.refl w
  go_wp2_with fail
  refine Calls.mono (HJ.out _ (Env.reach HE.out Q)) ?_
  rintro e W1 ⟨rfl, hr⟩
  replace Q := Reach.trans Q hr
  clear hr
  go_wp2_with fail
  have BU : Blk (W1.alloc (.cells #[.bool u0, .string ⟨u1.toArray⟩, .string ⟨u2.toArray⟩, .int .i64 u3, .string ⟨u4.toArray⟩, .string ⟨u5.toArray⟩] 23)) (W1.heap.size) #[.bool u0, .string ⟨u1.toArray⟩, .string ⟨u2.toArray⟩, .int .i64 u3, .string ⟨u4.toArray⟩, .string ⟨u5.toArray⟩] 23 := by have h := Blk.new W1 #[.bool u0, .string ⟨u1.toArray⟩, .string ⟨u2.toArray⟩, .int .i64 u3, .string ⟨u4.toArray⟩, .string ⟨u5.toArray⟩] 23; exact h
  replace Q := Reach.alloc Q (.cells #[.bool u0, .string ⟨u1.toArray⟩, .string ⟨u2.toArray⟩, .int .i64 u3, .string ⟨u4.toArray⟩, .string ⟨u5.toArray⟩] 23)
  generalize W1.alloc (.cells #[.bool u0, .string ⟨u1.toArray⟩, .string ⟨u2.toArray⟩, .int .i64 u3, .string ⟨u4.toArray⟩, .string ⟨u5.toArray⟩] 23) = X1 at BU Q ⊢
  generalize W1.heap.size = nBU at *
  refine Calls.mono (HX.out _ (Env.reach HE.out Q)) ?_
  rintro e W2 ⟨rfl, hr⟩
  replace Q := Reach.trans Q hr
  clear hr
  go_wp2_with fail
  go_ret
  exact ⟨rfl, Q⟩
end Go.Proofs.YtbeaheicjopooaaGreatDoor
