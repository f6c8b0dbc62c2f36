/- Plain functions: a right address is small; no condition. -/
import Derived.Test.YtbpijmmhgdemlaaGreatDoorPureI
namespace Go.Proofs.YtbpijmmhgdemlaaGreatDoor
theorem small_of (u : URL) (h : checkB u = true) : u.sch.length ≤ 500 ∧ u.host.length ≤ 500 ∧ u.path.length ≤ 500 ∧ u.query.length ≤ 500 ∧ 0 ≤ u.port ∧ u.port ≤ 65535 := by
  obtain ⟨h1, h2, h3, h4, h5⟩ := checkB_parts u h
  cases ho : u.opq
  · obtain ⟨a1, a2, a3, a4, a5, a6, a7, a8⟩ := h5 ho
    rw [textL_front u ho, List.length_append, List.length_append] at h3
    have hf : u.sch.length + u.host.length ≤ (frontT u.sch u.host u.port).length := by
      unfold frontT
      simp
      omega
    exact ⟨by omega, by omega, by omega, by omega, a2, a3⟩
  · obtain ⟨b1, b2, b3, b4, b5⟩ := h4 ho
    rw [textL_back u ho, List.length_append, List.length_cons] at h3
    rw [b1, b2, b3]
    exact ⟨by omega, by simp, by omega, by simp, by omega, by omega⟩
theorem join_small (b : URL) (s : List UInt8) (h : joinE b s = 0) : (joinU b s).sch.length ≤ 500 ∧ (joinU b s).host.length ≤ 500 ∧ (joinU b s).path.length ≤ 500 ∧ (joinU b s).query.length ≤ 500 ∧ 0 ≤ (joinU b s).port ∧ (joinU b s).port ≤ 65535 :=
  small_of _ (joinE_right b s h)
end Go.Proofs.YtbpijmmhgdemlaaGreatDoor
