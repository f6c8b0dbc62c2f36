/- Plain functions: when the reference calls an address right; no condition. -/
import Derived.Test.YtbpijmmhgdemlaaGreatDoorPureG
namespace Go.Proofs.YtbpijmmhgdemlaaGreatDoor
/-- Nothing but bytes from 33 to 126, without a #. -/
def noHashB (c : Int) : Bool := !(decide (c < 33) || decide (126 < c) || c == 35 || c == 35)
/-- May a text stand behind an opaque one's scheme? -/
def restP (l : List UInt8) : Bool := allB opqByte l && trimL l == l
/-- Is a path clean? -/
def cleanP (l : List UInt8) : Bool := l != [] && allB pathByte l && cleanL l == l
/-- The reference's tests, one behind the other. -/
def rightB (o : Bool) (a b : List UInt8) (n : Int) (c d : List UInt8) : Bool :=
  schemeB a && !decide ((500 : Int) < c.length) && !decide ((500 : Int) < d.length) && !decide ((500 : Int) < b.length) &&
  (if o then (defPort a == 0) && restP c && b == [] && d == [] && n == 0 && decide (((textL ⟨o, a, b, n, c, d⟩).length : Int) ≤ 500)
   else !(defPort a == 0) && hostB b && !decide (n < 0) && !decide (65535 < n) && !(n == defPort a) && cleanP c && (d == [] || ((((d.headD 0).toNat : Int) == 63) && allB noHashB d)) && decide (((textL ⟨o, a, b, n, c, d⟩).length : Int) ≤ 500))
theorem noHash_qry (q : List UInt8) : allB noHashB (63 :: q) = allB qryByte q := by
  show (noHashB 63 && allB noHashB q) = _
  have e : noHashB 63 = true := by decide
  rw [e, Bool.true_and]
  have : noHashB = qryByte := by
    funext c
    unfold noHashB qryByte pathByte
    rw [Bool.eq_iff_iff]
    simp
    omega
  rw [this]
theorem rightB_eq (o : Bool) (a b : List UInt8) (n : Int) (c d : List UInt8) : rightB o a b n c d = checkB ⟨o, a, b, n, c, d⟩ := by
  cases o
  · have hl : (textL ⟨false, a, b, n, c, d⟩).length = (frontT a b n).length + (c.length + d.length) := by
      rw [textL_front ⟨false, a, b, n, c, d⟩ rfl, List.length_append, List.length_append]
    have hf : b.length ≤ (frontT a b n).length := by
      unfold frontT
      simp
      omega
    have hq : (d == [] || ((((d.headD 0).toNat : Int) == 63) && allB noHashB d)) = (d == [] || (((d.headD 0).toNat : Int) == 63 && allB qryByte d.tail)) := by
      cases d with
      | nil => rfl
      | cons x q =>
        by_cases hx : x = 63
        · subst hx
          rw [noHash_qry]
          rfl
        · have : (((x.toNat : Int)) == 63) = false := by
            rw [beq_eq_false_iff_ne]
            intro e
            apply hx
            apply UInt8.toNat.inj
            show x.toNat = 63
            omega
          simp [this]
    unfold rightB checkB
    simp only [Bool.false_eq_true, if_false]
    rw [hq]
    generalize (d == [] || (((d.headD 0).toNat : Int) == 63 && allB qryByte d.tail)) = q
    rw [hl, Bool.eq_iff_iff]
    unfold cleanP
    simp only [Bool.and_eq_true, Bool.not_eq_true', decide_eq_true_eq, decide_eq_false_iff_not, bne_iff_ne, ne_eq, beq_iff_eq, beq_eq_false_iff_ne]
    constructor
    · rintro ⟨⟨⟨⟨h1, h2⟩, h3⟩, h4⟩, ⟨⟨⟨⟨⟨⟨⟨g1, g2⟩, g3⟩, g4⟩, g5⟩, ⟨⟨g6, g7⟩, g8⟩⟩, g9⟩, g10⟩⟩
      refine ⟨⟨⟨h1, by simpa using g1⟩, ⟨⟨⟨⟨⟨⟨⟨g2, by omega⟩, by omega⟩, g5⟩, g7⟩, g6⟩, g8⟩, g9⟩⟩, by omega⟩
    · rintro ⟨⟨⟨h1, h2⟩, ⟨⟨⟨⟨⟨⟨⟨g2, g3⟩, g4⟩, g5⟩, g7⟩, g6⟩, g8⟩, g9⟩⟩, g10⟩
      refine ⟨⟨⟨⟨h1, by omega⟩, by omega⟩, by omega⟩, ⟨⟨⟨⟨⟨⟨⟨by simpa using h2, g2⟩, by omega⟩, by omega⟩, g5⟩, ⟨⟨g6, g7⟩, g8⟩⟩, g9⟩, by omega⟩⟩
  · have hl : (textL ⟨true, a, b, n, c, d⟩).length = a.length + (c.length + 1) := by
      rw [textL_back ⟨true, a, b, n, c, d⟩ rfl]
      simp
    unfold rightB checkB
    simp only [if_true]
    rw [hl, Bool.eq_iff_iff]
    unfold restP
    simp only [Bool.and_eq_true, Bool.not_eq_true', decide_eq_true_eq, decide_eq_false_iff_not, beq_iff_eq]
    constructor
    · rintro ⟨⟨⟨⟨h1, h2⟩, h3⟩, h4⟩, ⟨⟨⟨⟨⟨g1, ⟨g2, g3⟩⟩, g4⟩, g5⟩, g6⟩, g7⟩⟩
      exact ⟨⟨⟨h1, by simp [g1]⟩, ⟨⟨⟨⟨g4, g5⟩, g6⟩, g3⟩, g2⟩⟩, by omega⟩
    · rintro ⟨⟨⟨h1, h2⟩, ⟨⟨⟨⟨g4, g5⟩, g6⟩, g3⟩, g2⟩⟩, g7⟩
      exact ⟨⟨⟨⟨h1, by omega⟩, by rw [g5]; simp⟩, by rw [g4]; simp⟩, ⟨⟨⟨⟨⟨by simpa using h2.symm, ⟨g2, g3⟩⟩, g4⟩, g5⟩, g6⟩, by omega⟩⟩
end Go.Proofs.YtbpijmmhgdemlaaGreatDoor
