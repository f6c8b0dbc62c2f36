/- What package url's Check and Print answer, for addresses whose texts have at most a million bytes each. -/
import Derived.Test.YtbeaheicjopooaaGreatDoorProg
import Derived.Test.YtbeaheicjopooaaGreatDoorCheckO
import Derived.Test.YtbeaheicjopooaaGreatDoorCheckR
import Derived.Test.YtbeaheicjopooaaGreatDoorCut
import Derived.Test.YtbeaheicjopooaaGreatDoorPort
namespace Go.Proofs.YtbeaheicjopooaaGreatDoor
open Go.RowKit Go.Sort
attribute [local go_sem] get_mk mk_append mk_extract0 mk_extract_end mk_extract_cons empty_mk cell_grow frozen_grow size_grow

theorem check_calls (o : Bool) (a b : List UInt8) (n : Int) (c d : List UInt8) (w : World) (h1 : -9223372036854775808 ≤ n) (h2 : n ≤ 9223372036854775807)
    (ha : a.length ≤ 1000000) (hb : b.length ≤ 1000000) (hc : c.length ≤ 1000000) (hd : d.length ≤ 1000000) (hE : Env w) :
    Calls Tryz.prog 29 #[.agg #[.bool o, .string ⟨a.toArray⟩, .string ⟨b.toArray⟩, .int .i64 n, .string ⟨c.toArray⟩, .string ⟨d.toArray⟩]] w fun e w' => e = .returned (.int .i64 (checkE ⟨o, a, b, n, c, d⟩)) ∧ Reach w w' := by
  cases o
  · exact check_ranked a b n c d w h1 h2 ha hb hc hd hE
  · exact check_opq a b n c d w h1 h2 ha hb hc hd hE
set_option maxRecDepth 100000 in
set_option maxHeartbeats 400000 in
theorem print_calls (o : Bool) (a b : List UInt8) (n : Int) (c d : List UInt8) (w : World) (h1 : -9223372036854775808 ≤ n) (h2 : n ≤ 9223372036854775807)
    (ha : a.length ≤ 1000000) (hb : b.length ≤ 1000000) (hc : c.length ≤ 1000000) (hd : d.length ≤ 1000000) (hE : Env w) :
    Calls Tryz.prog 33 #[.agg #[.bool o, .string ⟨a.toArray⟩, .string ⟨b.toArray⟩, .int .i64 n, .string ⟨c.toArray⟩, .string ⟨d.toArray⟩]] w fun e w' =>
      e = .returned (.tuple #[.string ⟨(printL ⟨o, a, b, n, c, d⟩).toArray⟩, .int .i64 (checkE ⟨o, a, b, n, c, d⟩)]) ∧ Reach w w' := by
  by_cases hck : checkB ⟨o, a, b, n, c, d⟩ = true
  · have e1 : checkE ⟨o, a, b, n, c, d⟩ = 0 := by rw [checkE, hck]; rfl
    have e2 : printL ⟨o, a, b, n, c, d⟩ = textL ⟨o, a, b, n, c, d⟩ := by rw [printL, hck]; rfl
    rw [e1, e2]
    have hx := fun W (hE : Env W) => check_calls o a b n c d W h1 h2 ha hb hc hd hE
    simp only [e1] at hx
    have HX := Lib.hid hx
    clear hx e1 e2 hck
    go_enter Tryz.func33, Tryz.ntmps33
    go_wp2_with (first | (go_at_call 29; (with_reducible refine Calls.mono (HX.out _ (Env.reach hE (by (repeat (first | (with_reducible assumption) | (with_reducible exact Reach.refl _) | (with_reducible refine Reach.alloc ?_ _) | (with_reducible refine Reach.drew ?_) | (with_reducible refine Reach.drewN ?_ _) | (with_reducible refine Reach.grow ?_ _ _) | (with_reducible refine Reach.setCell ?_ ?_ _) | (with_reducible refine Reach.trans ?_ (by with_reducible assumption)) | (show _ ≤ Addr.block _; first | (exact Nat.le_refl _) | (show (_ : Nat) ≤ _; omega)) | (simp; done) | (simp; omega)))))) ?_); rintro e w' ⟨rfl, hb⟩; obtain ⟨hc, hf, hz⟩ := Reach.facts hb) | (go_at_call 77; (with_reducible refine Calls.mono (text_calls _ _ _ _ _ _ _ (by first | (with_reducible assumption) | omega | (simp; done) | (simp; omega)) (by first | (with_reducible assumption) | omega | (simp; done) | (simp; omega)) (by first | (with_reducible assumption) | omega | (simp; done) | (simp; omega)) (by first | (with_reducible assumption) | omega | (simp; done) | (simp; omega)) (by first | (with_reducible assumption) | omega | (simp; done) | (simp; omega)) (by first | (with_reducible assumption) | omega | (simp; done) | (simp; omega)) (Env.reach hE (by (repeat (first | (with_reducible assumption) | (with_reducible exact Reach.refl _) | (with_reducible refine Reach.alloc ?_ _) | (with_reducible refine Reach.drew ?_) | (with_reducible refine Reach.drewN ?_ _) | (with_reducible refine Reach.grow ?_ _ _) | (with_reducible refine Reach.setCell ?_ ?_ _) | (with_reducible refine Reach.trans ?_ (by with_reducible assumption)) | (show _ ≤ Addr.block _; first | (exact Nat.le_refl _) | (show (_ : Nat) ≤ _; omega)) | (simp; done) | (simp; omega)))))) ?_); rintro e w' ⟨rfl, hb⟩; obtain ⟨hc, hf, hz⟩ := Reach.facts hb))
    go_ret2
    exact ⟨rfl, by (repeat (first | (with_reducible assumption) | (with_reducible exact Reach.refl _) | (with_reducible refine Reach.alloc ?_ _) | (with_reducible refine Reach.drew ?_) | (with_reducible refine Reach.drewN ?_ _) | (with_reducible refine Reach.grow ?_ _ _) | (with_reducible refine Reach.setCell ?_ ?_ _) | (with_reducible refine Reach.trans ?_ (by with_reducible assumption)) | (show _ ≤ Addr.block _; first | (exact Nat.le_refl _) | (show (_ : Nat) ≤ _; omega)) | (simp; done) | (simp; omega)))⟩
  · have hf : checkB ⟨o, a, b, n, c, d⟩ = false := by simpa using hck
    have e1 : checkE ⟨o, a, b, n, c, d⟩ = 50 := by rw [checkE, hf]; rfl
    have e2 : printL ⟨o, a, b, n, c, d⟩ = [] := by rw [printL, hf]; rfl
    rw [e1, e2]
    have hx := fun W (hE : Env W) => check_calls o a b n c d W h1 h2 ha hb hc hd hE
    simp only [e1] at hx
    have HX := Lib.hid hx
    clear hx e1 e2 hck hf
    go_enter Tryz.func33, Tryz.ntmps33
    go_wp2_with (first | (go_at_call 29; (with_reducible refine Calls.mono (HX.out _ (Env.reach hE (by (repeat (first | (with_reducible assumption) | (with_reducible exact Reach.refl _) | (with_reducible refine Reach.alloc ?_ _) | (with_reducible refine Reach.drew ?_) | (with_reducible refine Reach.drewN ?_ _) | (with_reducible refine Reach.grow ?_ _ _) | (with_reducible refine Reach.setCell ?_ ?_ _) | (with_reducible refine Reach.trans ?_ (by with_reducible assumption)) | (show _ ≤ Addr.block _; first | (exact Nat.le_refl _) | (show (_ : Nat) ≤ _; omega)) | (simp; done) | (simp; omega)))))) ?_); rintro e w' ⟨rfl, hb⟩; obtain ⟨hc, hf, hz⟩ := Reach.facts hb))
    go_ret2
    exact ⟨rfl, by (repeat (first | (with_reducible assumption) | (with_reducible exact Reach.refl _) | (with_reducible refine Reach.alloc ?_ _) | (with_reducible refine Reach.drew ?_) | (with_reducible refine Reach.drewN ?_ _) | (with_reducible refine Reach.grow ?_ _ _) | (with_reducible refine Reach.setCell ?_ ?_ _) | (with_reducible refine Reach.trans ?_ (by with_reducible assumption)) | (show _ ≤ Addr.block _; first | (exact Nat.le_refl _) | (show (_ : Nat) ≤ _; omega)) | (simp; done) | (simp; omega)))⟩
end Go.Proofs.YtbeaheicjopooaaGreatDoor
