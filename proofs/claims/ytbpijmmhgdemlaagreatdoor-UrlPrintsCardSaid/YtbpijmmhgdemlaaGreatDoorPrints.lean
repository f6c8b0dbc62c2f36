/- The law UrlPrints, walked. -/
import Derived.Test.YtbpijmmhgdemlaaGreatDoorProg
import Derived.Test.YtbpijmmhgdemlaaGreatDoorRParse
import Derived.Test.YtbpijmmhgdemlaaGreatDoorParses
import Derived.Test.YtbpijmmhgdemlaaGreatDoorBig
namespace Go.Proofs.YtbpijmmhgdemlaaGreatDoor
open Go.RowKit Go.Sort
attribute [local go_sem] get_mk mk_append mk_extract0 mk_extract_end mk_extract_cons empty_mk cell_grow frozen_grow size_grow
theorem bigNo {a b c d : List UInt8} (h : bigB a b c d = false) : a.length ≤ 2000 ∧ b.length ≤ 2000 ∧ c.length ≤ 2000 ∧ d.length ≤ 2000 := by
  simp [bigB] at h
  omega
set_option maxRecDepth 100000 in
set_option maxHeartbeats 4000000 in
theorem prints_calls (o : Bool) (a b : List UInt8) (n : Int) (c d : List UInt8) (w : World) (h1 : -9223372036854775808 ≤ n) (h2 : n ≤ 9223372036854775807) (hE : Env w) :
    Calls Tryz.prog 4 #[.agg #[.bool o, .string ⟨a.toArray⟩, .string ⟨b.toArray⟩, .int .i64 n, .string ⟨c.toArray⟩, .string ⟨d.toArray⟩]] w fun e w' => e = .returned (.bool true) ∧ Reach w w' := by
  have HE := Lib.hid hE
  clear hE
  have hba := fun W => big_calls o a b n c d W
  cases hbig : bigB a b c d
  rotate_left
  · rw [hbig] at hba
    have HBA := Lib.hid hba
    clear hba hbig
    go_enter Tryz.func4, Tryz.ntmps4
    go_wp2_with (first | (go_at_call 24; (with_reducible refine Calls.mono (HBA.out _) ?_); rintro e w' ⟨rfl, hb⟩; obtain ⟨hc, hf, hz⟩ := Reach.facts hb) | ((with_reducible refine wp_region_quiet_below (by kernel_rfl) (by kernel_rfl) ?_); (repeat (any_goals (first | (go_big_quiet_step ((first | (go_at_call 24; with_reducible exact reg_reach (HBA.out _))))) | (quiet_step ((first | (go_at_call 24; with_reducible exact reg_reach (HBA.out _))))) | (refine wpQuiet_step (fun K hK => ?_); go_simp; split <;> (refine hK _ ?_; clear hK K))))); all_goals (refine wpQuiet_nil ?_; intro _ hw'; obtain ⟨⟨dq, osq⟩, hw''⟩ := hw'; subst hw'')))
    go_ret
    exact ⟨rfl, by (repeat (first | (with_reducible assumption) | (with_reducible exact Reach.refl _) | (with_reducible refine Reach.alloc ?_ _) | (with_reducible refine Reach.drew ?_) | (with_reducible refine Reach.drewN ?_ _) | (with_reducible refine Reach.grow ?_ _ _) | (with_reducible refine Reach.setCell ?_ ?_ _) | (with_reducible refine Reach.trans ?_ (by with_reducible assumption)) | (show _ ≤ Addr.block _; first | (exact Nat.le_refl _) | (show (_ : Nat) ≤ _; omega)) | (simp; done) | (simp; omega)))⟩
  rw [hbig] at hba
  have HBA := Lib.hid hba
  obtain ⟨l1, l2, l3, l4⟩ := bigNo hbig
  clear hba hbig
  have hp := fun W (hE : Env W) => print_calls o a b n c d W h1 h2 (by omega) (by omega) (by omega) (by omega) hE
  have hc := fun W (hE : Env W) => check_calls o a b n c d W h1 h2 (by omega) (by omega) (by omega) (by omega) hE
  have hq := fun W => rprint_calls o a b n c d W h1 h2 (by omega) (by omega) (by omega) (by omega)
  have hr := fun W => rright_calls o a b n c d W h1 h2 (by omega) (by omega) (by omega) (by omega)
  generalize printL ⟨o, a, b, n, c, d⟩ = tx at *
  simp only [checkE] at hp hc hq
  cases hck : checkB ⟨o, a, b, n, c, d⟩
  all_goals
    rw [hck] at hr
    simp only [hck, Bool.false_eq_true, if_false, if_true] at hp hc hq
    have HP := Lib.hid hp
    have HC := Lib.hid hc
    have HQ := Lib.hid hq
    have HR := Lib.hid hr
    clear hp hc hq hr hck
    go_enter Tryz.func4, Tryz.ntmps4
    go_wp2_with fail
    have BA : Blk (w.alloc (.cells #[.bool o, .string ⟨a.toArray⟩, .string ⟨b.toArray⟩, .int .i64 n, .string ⟨c.toArray⟩, .string ⟨d.toArray⟩] 23)) (w.heap.size) #[.bool o, .string ⟨a.toArray⟩, .string ⟨b.toArray⟩, .int .i64 n, .string ⟨c.toArray⟩, .string ⟨d.toArray⟩] 23 := by have h := Blk.new w #[.bool o, .string ⟨a.toArray⟩, .string ⟨b.toArray⟩, .int .i64 n, .string ⟨c.toArray⟩, .string ⟨d.toArray⟩] 23; exact h
    have Q : Reach w _ := Reach.alloc (Reach.refl w) (.cells #[.bool o, .string ⟨a.toArray⟩, .string ⟨b.toArray⟩, .int .i64 n, .string ⟨c.toArray⟩, .string ⟨d.toArray⟩] 23)
    generalize w.alloc (.cells #[.bool o, .string ⟨a.toArray⟩, .string ⟨b.toArray⟩, .int .i64 n, .string ⟨c.toArray⟩, .string ⟨d.toArray⟩] 23) = W0 at BA Q ⊢
    (with_reducible refine Calls.mono (HBA.out _) ?_)
    rintro e W1 ⟨rfl, hr⟩
    replace BA := BA.reach hr
    replace Q := Reach.trans Q hr
    clear hr
    obtain ⟨x0_0, x0_1, x0_2, x0_3, x0_4, x0_5⟩ := BA.six
    have xl0 := BA.lt
    go_wp2_with fail
    clear x0_0 x0_1 x0_2 x0_3 x0_4 x0_5 xl0
    (with_reducible refine Calls.mono (HP.out _ (Env.reach HE.out Q)) ?_)
    rintro e W2 ⟨rfl, hr⟩
    replace BA := BA.reach hr
    replace Q := Reach.trans Q hr
    clear hr
    obtain ⟨x0_0, x0_1, x0_2, x0_3, x0_4, x0_5⟩ := BA.six
    have xl0 := BA.lt
    go_wp2_with fail
    clear x0_0 x0_1 x0_2 x0_3 x0_4 x0_5 xl0
    (with_reducible refine Calls.mono (HQ.out _) ?_)
    rintro e W3 ⟨rfl, hr⟩
    replace BA := BA.reach hr
    replace Q := Reach.trans Q hr
    clear hr
    obtain ⟨x0_0, x0_1, x0_2, x0_3, x0_4, x0_5⟩ := BA.six
    have xl0 := BA.lt
    clear BA
    go_wp2_with (first | (go_at_call 23; (with_reducible refine Calls.mono (parses_calls _ (Env.reach HE.out (by (repeat (first | (with_reducible assumption) | (with_reducible exact Reach.refl _) | (with_reducible refine Reach.alloc ?_ _) | (with_reducible refine Reach.drew ?_) | (with_reducible refine Reach.drewN ?_ _) | (with_reducible refine Reach.grow ?_ _ _) | (with_reducible refine Reach.setCell ?_ ?_ _) | (with_reducible refine Reach.trans ?_ (by with_reducible assumption)) | (show _ ≤ Addr.block _; first | (exact Nat.le_refl _) | (show (_ : Nat) ≤ _; omega)) | (simp; done) | (simp; omega)))))) ?_); rintro e w' ⟨rfl, hb⟩; obtain ⟨hc, hf, hz⟩ := Reach.facts hb) | (go_at_call 27; (with_reducible refine Calls.mono (HC.out _ (Env.reach HE.out (by (repeat (first | (with_reducible assumption) | (with_reducible exact Reach.refl _) | (with_reducible refine Reach.alloc ?_ _) | (with_reducible refine Reach.drew ?_) | (with_reducible refine Reach.drewN ?_ _) | (with_reducible refine Reach.grow ?_ _ _) | (with_reducible refine Reach.setCell ?_ ?_ _) | (with_reducible refine Reach.trans ?_ (by with_reducible assumption)) | (show _ ≤ Addr.block _; first | (exact Nat.le_refl _) | (show (_ : Nat) ≤ _; omega)) | (simp; done) | (simp; omega)))))) ?_); rintro e w' ⟨rfl, hb⟩; obtain ⟨hc, hf, hz⟩ := Reach.facts hb) | (go_at_call 28; (with_reducible refine Calls.mono (HR.out _) ?_); rintro e w' ⟨rfl, hb⟩; obtain ⟨hc, hf, hz⟩ := Reach.facts hb) | ((with_reducible refine wp_region_quiet_below (by kernel_rfl) (by kernel_rfl) ?_); (repeat (any_goals (first | (go_big_quiet_step ((first | (go_at_call 23; with_reducible exact reg_reach (parses_calls _ (Env.reach HE.out (by (repeat (first | (with_reducible assumption) | (with_reducible exact Reach.refl _) | (with_reducible refine Reach.alloc ?_ _) | (with_reducible refine Reach.drew ?_) | (with_reducible refine Reach.drewN ?_ _) | (with_reducible refine Reach.grow ?_ _ _) | (with_reducible refine Reach.setCell ?_ ?_ _) | (with_reducible refine Reach.trans ?_ (by with_reducible assumption)) | (show _ ≤ Addr.block _; first | (exact Nat.le_refl _) | (show (_ : Nat) ≤ _; omega)) | (simp; done) | (simp; omega))))))) | (go_at_call 27; with_reducible exact reg_reach (HC.out _ (Env.reach HE.out (by (repeat (first | (with_reducible assumption) | (with_reducible exact Reach.refl _) | (with_reducible refine Reach.alloc ?_ _) | (with_reducible refine Reach.drew ?_) | (with_reducible refine Reach.drewN ?_ _) | (with_reducible refine Reach.grow ?_ _ _) | (with_reducible refine Reach.setCell ?_ ?_ _) | (with_reducible refine Reach.trans ?_ (by with_reducible assumption)) | (show _ ≤ Addr.block _; first | (exact Nat.le_refl _) | (show (_ : Nat) ≤ _; omega)) | (simp; done) | (simp; omega))))))) | (go_at_call 28; with_reducible exact reg_reach (HR.out _))))) | (quiet_step ((first | (go_at_call 23; with_reducible exact reg_reach (parses_calls _ (Env.reach HE.out (by (repeat (first | (with_reducible assumption) | (with_reducible exact Reach.refl _) | (with_reducible refine Reach.alloc ?_ _) | (with_reducible refine Reach.drew ?_) | (with_reducible refine Reach.drewN ?_ _) | (with_reducible refine Reach.grow ?_ _ _) | (with_reducible refine Reach.setCell ?_ ?_ _) | (with_reducible refine Reach.trans ?_ (by with_reducible assumption)) | (show _ ≤ Addr.block _; first | (exact Nat.le_refl _) | (show (_ : Nat) ≤ _; omega)) | (simp; done) | (simp; omega))))))) | (go_at_call 27; with_reducible exact reg_reach (HC.out _ (Env.reach HE.out (by (repeat (first | (with_reducible assumption) | (with_reducible exact Reach.refl _) | (with_reducible refine Reach.alloc ?_ _) | (with_reducible refine Reach.drew ?_) | (with_reducible refine Reach.drewN ?_ _) | (with_reducible refine Reach.grow ?_ _ _) | (with_reducible refine Reach.setCell ?_ ?_ _) | (with_reducible refine Reach.trans ?_ (by with_reducible assumption)) | (show _ ≤ Addr.block _; first | (exact Nat.le_refl _) | (show (_ : Nat) ≤ _; omega)) | (simp; done) | (simp; omega))))))) | (go_at_call 28; with_reducible exact reg_reach (HR.out _))))) | (refine wpQuiet_step (fun K hK => ?_); go_simp; split <;> (refine hK _ ?_; clear hK K))))); all_goals (refine wpQuiet_nil ?_; intro _ hw'; obtain ⟨⟨dq, osq⟩, hw''⟩ := hw'; subst hw'')))
    go_ret
    exact ⟨rfl, by (repeat (first | (with_reducible assumption) | (with_reducible exact Reach.refl _) | (with_reducible refine Reach.alloc ?_ _) | (with_reducible refine Reach.drew ?_) | (with_reducible refine Reach.drewN ?_ _) | (with_reducible refine Reach.grow ?_ _ _) | (with_reducible refine Reach.setCell ?_ ?_ _) | (with_reducible refine Reach.trans ?_ (by with_reducible assumption)) | (show _ ≤ Addr.block _; first | (exact Nat.le_refl _) | (show (_ : Nat) ≤ _; omega)) | (simp; done) | (simp; omega)))⟩
end Go.Proofs.YtbpijmmhgdemlaaGreatDoor
