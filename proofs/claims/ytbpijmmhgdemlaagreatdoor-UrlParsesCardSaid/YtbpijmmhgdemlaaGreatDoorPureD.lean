/- Plain functions: what is cleaned is clean, and not longer; no condition. -/
import Derived.Test.YtbpijmmhgdemlaaGreatDoorPureB
namespace Go.Proofs.YtbpijmmhgdemlaaGreatDoor
theorem splitC_no (c : UInt8) (l : List UInt8) : ∀ p ∈ splitC c l, c ∉ p := by
  induction l with
  | nil => intro p hp; simp [splitC] at hp; subst hp; simp
  | cons b l ih =>
    intro p hp
    simp only [splitC] at hp
    split at hp
    · rcases List.mem_cons.1 hp with rfl | hp
      · simp
      · exact ih p hp
    · rename_i hb
      cases hs : splitC c l with
      | nil => exact absurd hs (splitC_ne c l)
      | cons x xs =>
        rw [hs] at hp ih
        simp only [List.modifyHead_cons, List.mem_cons] at hp
        rcases hp with rfl | hp
        · have := ih x (by simp)
          simp only [List.mem_cons, not_or]
          exact ⟨fun e => hb e.symm, this⟩
        · exact ih p (by simp [hp])
theorem splitC_whole (c : UInt8) (x : List UInt8) (h : c ∉ x) : splitC c x = [x] := by
  induction x with
  | nil => rfl
  | cons b x ih =>
    simp only [List.mem_cons, not_or] at h
    simp only [splitC, if_neg (Ne.symm h.1), ih h.2, List.modifyHead_cons]
theorem splitC_append (c : UInt8) (x m : List UInt8) (h : c ∉ x) : splitC c (x ++ c :: m) = x :: splitC c m := by
  induction x with
  | nil => simp [splitC]
  | cons b x ih =>
    simp only [List.mem_cons, not_or] at h
    simp only [List.cons_append, splitC, if_neg (Ne.symm h.1), ih h.2, List.modifyHead_cons]
theorem splitC_join (c : UInt8) (xs : List (List UInt8)) (hn : xs ≠ []) (h : ∀ x ∈ xs, c ∉ x) : splitC c (Lib.join xs [c]) = xs := by
  induction xs with
  | nil => exact absurd rfl hn
  | cons x xs ih =>
    by_cases e : xs = []
    · subst e
      rw [Lib.join_one]
      exact splitC_whole c x (h x (by simp))
    · rw [join_cons x xs [c] e, List.append_assoc, List.singleton_append, splitC_append c x _ (h x (by simp)), ih e (fun y hy => h y (by simp [hy]))]
theorem join_splitC (c : UInt8) (l : List UInt8) : Lib.join (splitC c l) [c] = l := by
  induction l with
  | nil => rfl
  | cons b l ih =>
    simp only [splitC]
    split
    · rename_i hb
      subst hb
      rw [join_cons _ _ _ (splitC_ne b l), ih]
      rfl
    · cases hs : splitC c l with
      | nil => exact absurd hs (splitC_ne c l)
      | cons x xs =>
        rw [hs] at ih
        simp only [List.modifyHead_cons]
        by_cases e : xs = []
        · subst e
          rw [Lib.join_one] at ih ⊢
          rw [ih]
        · rw [join_cons _ _ _ e] at ih ⊢
          rw [← ih]
          rfl
/-- A piece that stays. -/
def stays (p : List UInt8) : Prop := p ≠ [46] ∧ p ≠ [46, 46]
theorem cleanStk_take (ps : List (List UInt8)) (h : ∀ p ∈ ps, stays p) (k : Nat) (hk : k ≤ ps.length) : cleanStk ps k = ps.take k := by
  induction k with
  | zero => simp [cleanStk]
  | succ k ih =>
    have hm : ps.getD k [] ∈ ps := by
      rw [List.getD_eq_getElem?_getD, List.getElem?_eq_getElem (by omega)]
      exact List.getElem_mem _
    have hs := h _ hm
    simp only [cleanStk, cleanStep, ih (by omega)]
    rw [if_neg hs.2, if_neg hs.1, List.take_succ_eq_append_getElem (by omega)]
    simp [List.getD_eq_getElem?_getD, List.getElem?_eq_getElem (show k < ps.length by omega)]
theorem cleanStk_good (c : UInt8) (ps : List (List UInt8)) (h : ∀ p ∈ ps, c ∉ p) (k : Nat) : ∀ q ∈ cleanStk ps k, c ∉ q ∧ stays q := by
  induction k with
  | zero => simp [cleanStk]
  | succ k ih =>
    have hm : c ∉ ps.getD k [] := by
      rw [List.getD_eq_getElem?_getD]
      cases e : ps[k]? with
      | none => simp
      | some y => exact h y (List.mem_of_getElem? e)
    have hd : ∀ q ∈ (cleanStk ps k).dropLast, c ∉ q ∧ stays q := fun q hq => ih q ((List.dropLast_sublist _).subset hq)
    have h0 : c ∉ ([] : List UInt8) ∧ stays [] := ⟨by simp, by simp [stays]⟩
    intro q hq
    simp only [cleanStk, cleanStep] at hq
    split at hq
    · split at hq
      · rcases List.mem_append.1 hq with hq | hq
        · exact hd q hq
        · rw [List.mem_singleton.1 hq]; exact h0
      · exact hd q hq
    · split at hq
      · split at hq
        · rcases List.mem_append.1 hq with hq | hq
          · exact ih q hq
          · rw [List.mem_singleton.1 hq]; exact h0
        · exact ih q hq
      · rename_i h1 h2
        rcases List.mem_append.1 hq with hq | hq
        · exact ih q hq
        · rw [List.mem_singleton.1 hq]; exact ⟨hm, h2, h1⟩
theorem cleanStk_ne (ps : List (List UInt8)) (h : ps ≠ []) : cleanStk ps ps.length ≠ [] := by
  cases e : ps.length with
  | zero => exact absurd (List.eq_nil_of_length_eq_zero e) h
  | succ k =>
    simp only [cleanStk, cleanStep, e]
    simp only [decide_true, if_true]
    repeat' split
    all_goals simp
/-- What texts weigh, one for each. -/
def heft (xs : List (List UInt8)) : Nat := totalL xs + xs.length
theorem heft_snoc (xs : List (List UInt8)) (x : List UInt8) : heft (xs ++ [x]) = heft xs + x.length + 1 := by
  simp [heft, totalL_append, totalL]; omega
theorem heft_dropLast (xs : List (List UInt8)) : heft xs.dropLast ≤ heft xs := by
  have := totalL_dropLast xs
  simp only [heft, List.length_dropLast]
  omega
theorem heft_take (ps : List (List UInt8)) (k : Nat) (h : k < ps.length) : heft (ps.take (k + 1)) = heft (ps.take k) + (ps.getD k []).length + 1 := by
  have := totalL_take_succ ps k h
  simp only [heft, List.length_take]
  omega
theorem heft_cleanStk (ps : List (List UInt8)) (k : Nat) (h : k ≤ ps.length) : heft (cleanStk ps k) ≤ heft (ps.take k) := by
  induction k with
  | zero => simp [cleanStk, heft, totalL]
  | succ k ih =>
    have i := ih (by omega)
    have hd := heft_dropLast (cleanStk ps k)
    rw [heft_take ps k (by omega)]
    simp only [cleanStk, cleanStep]
    repeat' split
    all_goals first | omega | (rw [heft_snoc]; omega) | (rw [heft_snoc, List.length_nil]; omega)
theorem heft_join (xs : List (List UInt8)) (c : UInt8) (h : xs ≠ []) : (Lib.join xs [c]).length + 1 = heft xs := by
  induction xs with
  | nil => exact absurd rfl h
  | cons x xs ih =>
    by_cases e : xs = []
    · subst e; simp [Lib.join_one, heft, totalL]
    · rw [join_cons x xs [c] e]
      have := ih e
      simp [heft, totalL] at this ⊢; omega
theorem cleanL_length (l : List UInt8) : (cleanL l).length ≤ l.length := by
  unfold cleanL
  split
  · rename_i r
    have h1 := heft_join _ 47 (cleanStk_ne (splitC 47 r) (splitC_ne 47 r))
    have h2 := heft_cleanStk (splitC 47 r) _ (Nat.le_refl _)
    have h3 := heft_join (splitC 47 r) 47 (splitC_ne 47 r)
    rw [List.take_length] at h2
    rw [join_splitC] at h3
    simp only [List.length_cons]
    omega
  · simp
/-- A path is clean: it begins with a slash and no piece of it is of dots alone. -/
theorem cleanL_same (r : List UInt8) (h : ∀ p ∈ splitC 47 r, stays p) : cleanL (47 :: r) = 47 :: r := by
  rw [cleanL_cons, cleanStk_take _ h _ (Nat.le_refl _), List.take_length, join_splitC]
theorem cleanL_stays (r : List UInt8) : ∃ m, cleanL (47 :: r) = 47 :: m ∧ ∀ p ∈ splitC 47 m, stays p := by
  refine ⟨_, cleanL_cons r, ?_⟩
  have hg := cleanStk_good 47 (splitC 47 r) (splitC_no 47 r) (splitC 47 r).length
  rw [splitC_join 47 _ (cleanStk_ne _ (splitC_ne 47 r)) (fun x hx => (hg x hx).1)]
  exact fun p hp => (hg p hp).2
theorem cleanL_twice (l : List UInt8) : cleanL (cleanL l) = cleanL l := by
  by_cases h : ∃ r, l = 47 :: r
  · obtain ⟨r, rfl⟩ := h
    obtain ⟨m, hm, hs⟩ := cleanL_stays r
    rw [hm, cleanL_same m hs]
  · have : cleanL l = [] := by
      unfold cleanL
      split
      · rename_i r; exact absurd ⟨r, rfl⟩ h
      · rfl
    rw [this]
    rfl
theorem cleanL_iff_same (r : List UInt8) : cleanL (47 :: r) = 47 :: r ↔ ∀ p ∈ splitC 47 r, stays p := by
  refine ⟨fun h => ?_, cleanL_same r⟩
  obtain ⟨m, hm, hs⟩ := cleanL_stays r
  rw [h] at hm
  rw [(List.cons.inj hm).2]
  exact hs
theorem cleanL_other (b : UInt8) (r : List UInt8) (h : b ≠ 47) : cleanL (b :: r) = [] := by
  unfold cleanL
  split
  · rename_i e; exact absurd (List.cons.inj e).1 h
  · rfl
end Go.Proofs.YtbpijmmhgdemlaaGreatDoor
