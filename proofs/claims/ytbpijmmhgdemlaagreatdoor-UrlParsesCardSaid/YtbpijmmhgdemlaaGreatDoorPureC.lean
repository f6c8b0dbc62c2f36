/- Plain functions: an address out of a text; no condition. -/
import Derived.Test.YtbpijmmhgdemlaaGreatDoorPureB
namespace Go.Proofs.YtbpijmmhgdemlaaGreatDoor
/-- The address that a text tells, not yet asked whether it is right. -/
def rawU (s : List UInt8) : URL :=
  if defPort (lowerL (frontL (frontL (trimL s) [35]) [58])) = 0 then
    ⟨true, lowerL (frontL (frontL (trimL s) [35]) [58]), [], 0, trimL ((restL (frontL (trimL s) [35]) [58]).drop 1), []⟩
  else rankedL (lowerL (frontL (frontL (trimL s) [35]) [58])) ((restL (frontL (trimL s) [35]) [58]).drop 1)
def zeroU : URL := ⟨false, [], [], 0, [], []⟩
/-- Does a text tell an address? -/
def parseB (s : List UInt8) : Bool := restL (frontL (trimL s) [35]) [58] != [] && checkB (rawU s)
def parseU (s : List UInt8) : URL := if parseB s then rawU s else zeroU
def parseE (s : List UInt8) : Int := if parseB s then 0 else 50
theorem dropWhile_length (p : UInt8 → Bool) (l : List UInt8) : (l.dropWhile p).length ≤ l.length := by
  induction l with
  | nil => simp
  | cons b l ih =>
    simp only [List.dropWhile_cons]
    split
    · simp; omega
    · simp
theorem trimL_length (l : List UInt8) : (trimL l).length ≤ l.length := by
  unfold trimL Lib.trimS Lib.trimLeftS Lib.trimRightS
  have h1 := dropWhile_length (fun b => [9, 10, 12, 13, 32].contains b) l.reverse
  have h2 := dropWhile_length (fun b => [9, 10, 12, 13, 32].contains b) (l.reverse.dropWhile (fun b => [9, 10, 12, 13, 32].contains b)).reverse
  simp only [List.length_reverse] at h1 h2
  exact Nat.le_trans h2 h1
theorem cleanL_length2 (l : List UInt8) : (cleanL l).length ≤ 2 * l.length + 2 := by
  unfold cleanL
  split
  · rename_i r
    have h1 := join_length (cleanStk (splitC 47 r) (splitC 47 r).length) 47
    have h2 := totalL_cleanStk (splitC 47 r) _ (Nat.le_refl _)
    rw [List.take_length] at h2
    have h3 := totalL_splitC 47 r
    have h4 := cleanStk_length (splitC 47 r) (splitC 47 r).length
    have h5 := splitC_length 47 r
    simp only [List.length_cons]
    omega
  · simp
theorem digitsL_lt (l : List UInt8) (acc : Nat) (h : allB isDigit l = true) : l.foldl (fun n b => n * 10 + (b.toNat - 48)) acc < (acc + 1) * 10 ^ l.length := by
  induction l generalizing acc with
  | nil => simp
  | cons b l ih =>
    simp only [allB, Bool.and_eq_true] at h
    have hd : 48 ≤ b.toNat ∧ b.toNat ≤ 57 := by
      have := h.1
      simp [isDigit] at this
      omega
    have := ih (acc * 10 + (b.toNat - 48)) h.2
    simp only [List.foldl_cons, List.length_cons, Nat.pow_succ]
    refine Nat.lt_of_lt_of_le this ?_
    rw [Nat.mul_comm (10 ^ l.length) 10, ← Nat.mul_assoc]
    exact Nat.mul_le_mul_right _ (by omega)
theorem portL_bounds (l : List UInt8) : -1 ≤ portL l ∧ portL l < 100000 := by
  unfold portL
  split
  · omega
  · split
    · omega
    · rename_i h1 h2
      have h3 : allB isDigit l.tail = true := by
        cases h : allB isDigit l.tail
        · exact absurd (.inr (.inr h)) h2
        · rfl
      have h4 := digitsL_lt l.tail 0 h3
      have h5 : l.tail.length ≤ 5 := by rw [List.length_tail]; omega
      have h6 : 10 ^ l.tail.length ≤ 10 ^ 5 := Nat.pow_le_pow_right (by omega) h5
      unfold digitsL
      omega
theorem defPort_bounds (l : List UInt8) : 0 ≤ defPort l ∧ defPort l ≤ 443 := by
  unfold defPort
  split
  · omega
  · split <;> omega
theorem rankedL_bounds (sch rest : List UInt8) (h1 : sch.length ≤ 400000) (h2 : rest.length ≤ 400000) :
    (rankedL sch rest).sch.length ≤ 1000000 ∧ (rankedL sch rest).host.length ≤ 1000000 ∧ (rankedL sch rest).path.length ≤ 1000000 ∧ (rankedL sch rest).query.length ≤ 1000000 ∧ -1 ≤ (rankedL sch rest).port ∧ (rankedL sch rest).port ≤ 100000 := by
  unfold rankedL
  split
  · have a1 := frontL_length (rest.drop 2) [47, 63]
    have a2 := restL_length (rest.drop 2) [47, 63]
    rw [List.length_drop] at a1 a2
    have a3 := frontL_length (frontL (rest.drop 2) [47, 63]) [58]
    have a4 := frontL_length (restL (rest.drop 2) [47, 63]) [63]
    have a5 := restL_length (restL (rest.drop 2) [47, 63]) [63]
    have a6 := portL_bounds (restL (frontL (rest.drop 2) [47, 63]) [58])
    refine ⟨by show sch.length ≤ _; omega, by show (lowerL _).length ≤ _; rw [lowerL_length]; omega, ?_, by show (restL (restL (rest.drop 2) [47, 63]) [63]).length ≤ _; omega, ?_, ?_⟩
    · show (cleanL _).length ≤ _
      refine Nat.le_trans (cleanL_length2 _) ?_
      split
      · simp
      · omega
    · show (-1 : Int) ≤ (if _ then _ else _)
      split <;> omega
    · show (if _ then _ else _) ≤ (100000 : Int)
      split <;> omega
  · exact ⟨by show sch.length ≤ _; omega, by simp, by simp, by simp, by simp, by simp⟩
end Go.Proofs.YtbpijmmhgdemlaaGreatDoor
