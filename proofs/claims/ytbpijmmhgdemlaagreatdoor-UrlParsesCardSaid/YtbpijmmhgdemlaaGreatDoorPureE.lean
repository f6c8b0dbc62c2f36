/- Plain functions: two dots side by side, and hosts; no condition. -/
import Derived.Test.YtbpijmmhgdemlaaGreatDoorPureB
import Derived.Lib.IndexMore
namespace Go.Proofs.YtbpijmmhgdemlaaGreatDoor
/-- Do two dots stand side by side? -/
def dd : List UInt8 → Bool
  | a :: b :: t => (a == 46 && b == 46) || dd (b :: t)
  | _ => false
theorem index_dots_ge (l : List UInt8) : -1 ≤ Lib.index l [46, 46] := by
  induction l with
  | nil => decide
  | cons b t ih =>
    simp only [Lib.index]
    split
    · decide
    · split <;> omega
theorem index_step (a : UInt8) (l : List UInt8) : Lib.index (a :: l) [46, 46] = if List.isPrefixOf [46, 46] (a :: l) then 0 else if Lib.index l [46, 46] == -1 then -1 else Lib.index l [46, 46] + 1 := rfl
theorem index_dots_iff (l : List UInt8) : 0 ≤ Lib.index l [46, 46] ↔ dd l = true := by
  induction l with
  | nil => simp [Lib.index, dd]
  | cons a l ih =>
    have hg := index_dots_ge l
    cases l with
    | nil => simp [Lib.index, dd, List.isPrefixOf]
    | cons b t =>
      rw [index_step, dd, Bool.or_eq_true, ← ih]
      generalize Lib.index (b :: t) [46, 46] = x at hg ⊢
      by_cases h : a = 46 ∧ b = 46
      · obtain ⟨rfl, rfl⟩ := h
        simp [List.isPrefixOf]
      · have hp : List.isPrefixOf [46, 46] (a :: b :: t) = false := by
          simp only [List.isPrefixOf, Bool.and_eq_false_iff, beq_eq_false_iff_ne]
          by_cases ha : a = 46
          · exact .inr (.inl (fun e => h ⟨ha, e.symm⟩))
          · exact .inl (fun e => ha e.symm)
        have hq : (a == 46 && b == 46) = false := by
          rw [Bool.and_eq_false_iff, beq_eq_false_iff_ne, beq_eq_false_iff_ne]
          by_cases ha : a = 46
          · exact .inr (fun e => h ⟨ha, e⟩)
          · exact .inl ha
        rw [hp, hq]
        simp only [Bool.false_eq_true, if_false, false_or]
        by_cases he : x = -1
        · subst he; simp
        · rw [if_neg (by simpa using he)]
          omega
theorem index_dots (l : List UInt8) : decide (0 ≤ Lib.index l [46, 46]) = dd l := by
  rw [Bool.eq_iff_iff, decide_eq_true_eq]
  exact index_dots_iff l
theorem dd_snoc (m : List UInt8) (x : UInt8) : dd (m ++ [x]) = (dd m || (m.getLast? == some 46 && x == 46)) := by
  induction m with
  | nil => rfl
  | cons a m ih =>
    cases m with
    | nil => simp [dd]
    | cons b t =>
      simp only [List.cons_append, dd] at ih ⊢
      rw [ih, Bool.or_assoc]
      simp
theorem dd_take (l : List UInt8) (k : Nat) (h : k + 1 < l.length) : dd (l.take (k + 2)) = (dd (l.take (k + 1)) || (l[k] == 46 && l[k + 1] == 46)) := by
  rw [List.take_succ_eq_append_getElem h, dd_snoc]
  congr 2
  rw [List.take_succ_eq_append_getElem (by omega), List.getLast?_append]
  simp
theorem dd_one (l : List UInt8) (h : 0 < l.length) : dd (l.take 1) = false := by
  cases l with
  | nil => simp at h
  | cons b l => rfl
theorem dd_mono (l : List UInt8) (k : Nat) (h : dd (l.take k) = true) : dd l = true := by
  induction l generalizing k with
  | nil => simp [dd] at h
  | cons a l ih =>
    cases k with
    | zero => simp [dd] at h
    | succ k =>
      cases l with
      | nil => simp [dd] at h
      | cons b t =>
        cases k with
        | zero => simp [dd] at h
        | succ k =>
          simp only [List.take_succ_cons, dd, Bool.or_eq_true] at h ⊢
          rcases h with h | h
          · exact .inl h
          · exact .inr (ih (k + 1) h)
theorem hostB_eq (l : List UInt8) (h : 0 < l.length) :
    hostB l = (decide (l.length ≤ 100) && allB hostByte l && !(l[0] == 46) && !(l[l.length - 1] == 46) && !dd l) := by
  have e1 : Lib.contains ([46] ++ l ++ [46]) [46, 46] = (l[0] == 46 || (dd l || l[l.length - 1] == 46)) := by
    have hl : l.getLast? = some l[l.length - 1] := by rw [List.getLast?_eq_getElem?, List.getElem?_eq_getElem]
    show decide (0 ≤ Lib.index _ _) = _
    rw [index_dots]
    cases l with
    | nil => simp at h
    | cons b r =>
      simp only [List.cons_append, List.nil_append, dd]
      rw [show b :: (r ++ [46]) = (b :: r) ++ [46] from rfl, dd_snoc, hl]
      simp
  unfold hostB
  rw [e1]
  have e2 : l.isEmpty = false := by cases l with | nil => simp at h | cons b r => rfl
  rw [e2]
  cases l[0] == 46 <;> cases dd l <;> cases l[l.length - 1] == 46 <;> simp
end Go.Proofs.YtbpijmmhgdemlaaGreatDoor
