/- What the reference answers of a scheme's own port. -/
import Derived.Test.YtbpijmmhgdemlaaDoorProg
import Derived.Test.YtbpijmmhgdemlaaDoorEnv
import Derived.Test.YtbpijmmhgdemlaaDoorPure
import Derived.WalkSmall
namespace Go.Proofs.YtbpijmmhgdemlaaDoor
open Go.RowKit Go.Sort
attribute [local go_sem] get_mk mk_append mk_extract0 mk_extract_end mk_extract_cons empty_mk cell_grow frozen_grow size_grow
set_option maxHeartbeats 400000 in
theorem rdefault_calls (l : List UInt8) (w : World) : Calls Tryd.prog 11 #[.string ⟨l.toArray⟩] w fun e w' => e = .returned (.int .i64 (defPort l)) ∧ w = w' := by
  go_enter Tryd.func11, Tryd.ntmps11
  go_wp2_with (first | ((with_reducible refine wp_region_quiet_below (by kernel_rfl) (by kernel_rfl) ?_); (repeat (any_goals (first | (go_big_quiet_step (fail)) | (quiet_step (fail)) | (refine wpQuiet_step (fun K hK => ?_); go_simp; split <;> (refine hK _ ?_; clear hK K))))); all_goals (refine wpQuiet_nil ?_; intro _ hw'; obtain ⟨⟨dq, osq⟩, hw''⟩ := hw'; subst hw'')))
  all_goals (go_ret; exact ⟨ret_int (by first | (simp_all [defPort]; done) | (simp_all [defPort]; intros; omega) | (rw [Bool.eq_iff_iff]; simp_all [defPort]; intros; omega)), rfl⟩)
end Go.Proofs.YtbpijmmhgdemlaaDoor
