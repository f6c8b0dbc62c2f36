/- What the reference's Parse answers; texts of at most 50000 bytes. -/
import Derived.Test.YtbeaheicjopooaaGreatDoorProg
import Derived.Test.YtbeaheicjopooaaGreatDoorRParse
namespace Go.Proofs.YtbeaheicjopooaaGreatDoor
open Go.RowKit Go.Sort
attribute [local go_sem] get_mk mk_append mk_extract0 mk_extract_end mk_extract_cons empty_mk cell_grow frozen_grow size_grow
/-- The address that the reference reads, not yet asked whether it is right. -/
def rrawU (s : List UInt8) : URL :=
  if defPort (lowerL (frontL (frontL (trimL s) [35]) [58])) = 0 then
    ⟨true, lowerL (frontL (frontL (trimL s) [35]) [58]), [], 0, trimL ((restL (frontL (trimL s) [35]) [58]).drop 1), []⟩
  else rrankedL (lowerL (frontL (frontL (trimL s) [35]) [58])) ((restL (frontL (trimL s) [35]) [58]).drop 1)
/-- The two readings of a port: alike, or both wrong. -/
theorem portL_cons (b : UInt8) (r : List UInt8) : portL (b :: r) = if r.length < 1 ∨ 5 < r.length ∨ allB isDigit r = false then -1 else (digitsL r : Int) := by
  unfold portL
  rw [if_neg (by simp)]
  by_cases h : r.length < 1 ∨ 5 < r.length ∨ allB isDigit r = false
  · rw [if_pos h, if_pos]
    show r.length + 1 < 2 ∨ 6 < r.length + 1 ∨ allB isDigit r = false
    rcases h with h | h | h
    · left; omega
    · right; left; omega
    · right; right; exact h
  · rw [if_neg h, if_neg]
    · rfl
    · show ¬ (r.length + 1 < 2 ∨ 6 < r.length + 1 ∨ allB isDigit r = false)
      rintro (e | e | e)
      · exact h (.inl (by omega))
      · exact h (.inr (.inl (by omega)))
      · exact h (.inr (.inr e))
theorem port_read (l : List UInt8) : portL l = (if l = [] then 0 else rportL (l.drop 1)) ∨ ((portL l < 0 ∨ 65535 < portL l) ∧ (if l = [] then 0 else rportL (l.drop 1)) = -1) := by
  cases l with
  | nil => left; rfl
  | cons b r =>
    rw [if_neg (by simp), List.drop_succ_cons, List.drop_zero, portL_cons]
    unfold rportL
    by_cases hbad : r.length < 1 ∨ 5 < r.length ∨ allB isDigit r = false
    · left
      rw [if_pos hbad, if_pos]
      rcases hbad with h | h | h
      · exact .inl h
      · exact .inr (.inl h)
      · exact .inr (.inr (.inl h))
    · rw [if_neg hbad]
      by_cases hz : 65535 < digitsL r
      · right
        exact ⟨.inr (by omega), by rw [if_pos (.inr (.inr (.inr hz)))]⟩
      · left
        rw [if_neg]
        rintro (e | e | e | e)
        · exact hbad (.inl e)
        · exact hbad (.inr (.inl e))
        · exact hbad (.inr (.inr e))
        · exact hz e
/-- The reference's reading is right just if the program's is, and then they are alike. -/
theorem rranked_same (sch rest : List UInt8) : rankedL sch rest = rrankedL sch rest ∨ (checkB (rankedL sch rest) = false ∧ checkB (rrankedL sch rest) = false) := by
  unfold rankedL rrankedL
  split
  · have hp := port_read (restL (frontL (rest.drop 2) [47, 63]) [58])
    generalize portL (restL (frontL (rest.drop 2) [47, 63]) [58]) = p at *
    generalize (if restL (frontL (rest.drop 2) [47, 63]) [58] = [] then (0 : Int) else rportL ((restL (frontL (rest.drop 2) [47, 63]) [58]).drop 1)) = q at *
    rcases hp with rfl | ⟨h1, rfl⟩
    · left; rfl
    · right
      have hd := defPort_bounds sch
      have wrong : ∀ (u : URL), u.opq = false → (u.port < 0 ∨ 65535 < u.port) → checkB u = false := by
        intro u ho hw
        cases hc : checkB u
        · rfl
        · obtain ⟨_, _, _, _, h5⟩ := checkB_parts u hc
          obtain ⟨_, a2, a3, _⟩ := h5 ho
          omega
      refine ⟨wrong _ rfl ?_, wrong _ rfl ?_⟩
      · show (if p = defPort sch then 0 else p) < 0 ∨ 65535 < (if p = defPort sch then 0 else p)
        rw [if_neg (by omega)]
        exact h1
      · show (if (-1 : Int) = defPort sch then 0 else -1) < 0 ∨ _
        rw [if_neg (by omega)]
        left; decide
  · left; rfl
theorem rraw_same (s : List UInt8) : rawU s = rrawU s ∨ (checkB (rawU s) = false ∧ checkB (rrawU s) = false) := by
  unfold rawU rrawU
  split
  · left; rfl
  · exact rranked_same _ _
end Go.Proofs.YtbeaheicjopooaaGreatDoor
