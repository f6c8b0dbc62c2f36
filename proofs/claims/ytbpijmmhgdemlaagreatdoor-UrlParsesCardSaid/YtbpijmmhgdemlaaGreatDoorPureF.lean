/- Plain functions: blanks around a text, and what stands behind a #, play no part; what is right is of small letters; no condition. -/
import Derived.Test.YtbpijmmhgdemlaaGreatDoorPureC
import Derived.Test.YtbpijmmhgdemlaaGreatDoorPureD
namespace Go.Proofs.YtbpijmmhgdemlaaGreatDoor
/-- A blank. -/
def isBl (b : UInt8) : Bool := [9, 10, 12, 13, 32].contains b
theorem trimL_eq (l : List UInt8) : trimL l = ((l.reverse.dropWhile isBl).reverse).dropWhile isBl := rfl
theorem dropWhile_all (p : UInt8 → Bool) (a l : List UInt8) (h : ∀ b ∈ a, p b = true) : (a ++ l).dropWhile p = l.dropWhile p := by
  induction a with
  | nil => rfl
  | cons x a ih =>
    rw [List.cons_append, List.dropWhile_cons, if_pos (h x (by simp))]
    exact ih (fun b hb => h b (by simp [hb]))
theorem dropWhile_nil_of (p : UInt8 → Bool) (a : List UInt8) (h : ∀ b ∈ a, p b = true) : a.dropWhile p = [] := by
  have := dropWhile_all p a [] h
  simpa using this
theorem dropWhile_split (p : UInt8 → Bool) (l m : List UInt8) : (l ++ m).dropWhile p = if l.dropWhile p = [] then m.dropWhile p else l.dropWhile p ++ m := by
  induction l with
  | nil => simp
  | cons x l ih =>
    rw [List.cons_append, List.dropWhile_cons, List.dropWhile_cons]
    split
    · exact ih
    · simp
theorem trimL_behind (l b : List UInt8) (h : ∀ x ∈ b, isBl x = true) : trimL (l ++ b) = trimL l := by
  rw [trimL_eq, trimL_eq, List.reverse_append, dropWhile_all isBl b.reverse _ (fun x hx => h x (List.mem_reverse.1 hx))]
theorem trimL_ahead (a l : List UInt8) (h : ∀ x ∈ a, isBl x = true) : trimL (a ++ l) = trimL l := by
  rw [trimL_eq, trimL_eq, List.reverse_append, dropWhile_split]
  have ha : ∀ x ∈ a.reverse, isBl x = true := fun x hx => h x (List.mem_reverse.1 hx)
  by_cases e : l.reverse.dropWhile isBl = []
  · rw [if_pos e, e, dropWhile_nil_of isBl a.reverse ha]
  · rw [if_neg e, List.reverse_append, List.reverse_reverse, dropWhile_all isBl a _ h]
theorem dropWhile_head (p : UInt8 → Bool) (l : List UInt8) (b : UInt8) (r : List UInt8) (h : l.dropWhile p = b :: r) : p b = false := by
  induction l with
  | nil => simp at h
  | cons x l ih =>
    rw [List.dropWhile_cons] at h
    split at h
    · exact ih h
    · rename_i hx
      cases h
      simpa using hx
theorem dropWhile_id (p : UInt8 → Bool) (b : UInt8) (r : List UInt8) (h : p b = false) : (b :: r).dropWhile p = b :: r := by
  rw [List.dropWhile_cons, h]
  rfl
/-- A text whose first and last byte are no blanks is trimmed. -/
theorem trimL_id (l : List UInt8) (h1 : ∀ b r, l = b :: r → isBl b = false) (h2 : ∀ b r, l = r ++ [b] → isBl b = false) : trimL l = l := by
  rw [trimL_eq]
  have e : l.reverse.dropWhile isBl = l.reverse := by
    cases hr : l.reverse with
    | nil => rfl
    | cons b r =>
      refine dropWhile_id isBl b r (h2 b r.reverse ?_)
      have := congrArg List.reverse hr
      simpa using this
  rw [e, List.reverse_reverse]
  cases hl : l with
  | nil => rfl
  | cons b r => exact dropWhile_id isBl b r (h1 b r hl)
theorem dropWhile_length_eq (p : UInt8 → Bool) (l : List UInt8) (h : (l.dropWhile p).length = l.length) : l.dropWhile p = l := by
  cases l with
  | nil => rfl
  | cons x l =>
    rw [List.dropWhile_cons] at h ⊢
    split at h
    · have := dropWhile_length p l
      simp at h
      omega
    · rename_i hx
      rw [if_neg hx]
/-- What is trimmed has no blank at its ends. -/
theorem trimL_ends (l : List UInt8) (h : trimL l = l) : (∀ b r, l = b :: r → isBl b = false) ∧ (∀ b r, l = r ++ [b] → isBl b = false) := by
  rw [trimL_eq] at h
  have l1 := dropWhile_length isBl l.reverse
  have l2 := dropWhile_length isBl (l.reverse.dropWhile isBl).reverse
  have l3 := congrArg List.length h
  simp only [List.length_reverse] at l1 l2 l3
  have e1 : l.reverse.dropWhile isBl = l.reverse := dropWhile_length_eq isBl _ (by rw [List.length_reverse]; omega)
  rw [e1, List.reverse_reverse] at h
  refine ⟨fun b r e => ?_, fun b r e => ?_⟩
  · rw [e] at h
    exact dropWhile_head isBl _ b r h
  · rw [e, List.reverse_append] at e1
    exact dropWhile_head isBl _ b r.reverse e1
theorem trimL_twice (l : List UInt8) : trimL (trimL l) = trimL l := by
  refine trimL_id _ (fun b r e => ?_) (fun b r e => ?_)
  · rw [trimL_eq] at e
    exact dropWhile_head isBl _ b r e
  · rw [trimL_eq] at e
    have hx : ∀ (m : List UInt8), (∀ b r, m = r ++ [b] → isBl b = false) → ∀ b r, m.dropWhile isBl = r ++ [b] → isBl b = false := by
      intro m
      induction m with
      | nil => intro _ b r e; simp at e
      | cons x m ih =>
        intro hm b r e
        rw [List.dropWhile_cons] at e
        split at e
        · exact ih (fun b r e => hm b (x :: r) (by rw [e]; rfl)) b r e
        · exact hm b r e
    refine hx _ (fun b r e => ?_) b r e
    have e2 := congrArg List.reverse e
    rw [List.reverse_reverse, List.reverse_append] at e2
    exact dropWhile_head isBl _ b r.reverse e2
theorem frontL_mid (s m : List UInt8) (c : UInt8) : frontL (s ++ c :: m) [c] = frontL s [c] := by
  unfold frontL
  induction s with
  | nil => simp
  | cons x s ih =>
    rw [List.cons_append, List.takeWhile_cons, List.takeWhile_cons, ih]
/-- What stands behind a # plays no part. -/
theorem front_hash (s m : List UInt8) (hs : trimL s = s) (hn : s ≠ []) : frontL (trimL (s ++ 35 :: m)) [35] = frontL (trimL s) [35] := by
  have e : trimL (s ++ 35 :: m) = s ++ 35 :: (m.reverse.dropWhile isBl).reverse := by
    rw [trimL_eq, List.reverse_append, List.reverse_cons, List.append_assoc, dropWhile_split]
    have h35 : ([35] ++ s.reverse).dropWhile isBl = [35] ++ s.reverse := dropWhile_id isBl 35 _ (by decide)
    obtain ⟨b, r, hb⟩ : ∃ b r, s = b :: r := by
      cases s with
      | nil => exact absurd rfl hn
      | cons b r => exact ⟨b, r, rfl⟩
    have h0 := (trimL_ends s hs).1 b r hb
    split
    · rename_i hm
      rw [h35, hm, List.reverse_append, List.reverse_reverse, hb]
      exact dropWhile_id isBl b _ h0
    · rw [List.reverse_append, List.reverse_append, List.reverse_reverse, List.append_assoc, hb]
      exact dropWhile_id isBl b _ h0
  rw [e, hs, frontL_mid]
theorem parse_of_front (s t : List UInt8) (h : frontL (trimL s) [35] = frontL (trimL t) [35]) : rawU s = rawU t ∧ parseB s = parseB t := by
  have h1 : rawU s = rawU t := by unfold rawU; rw [h]
  exact ⟨h1, by unfold parseB; rw [h, h1]⟩
theorem parseU_of_front (s t : List UInt8) (h : frontL (trimL s) [35] = frontL (trimL t) [35]) : parseU s = parseU t ∧ parseE s = parseE t := by
  obtain ⟨h1, h2⟩ := parse_of_front s t h
  exact ⟨by unfold parseU; rw [h1, h2], by unfold parseE; rw [h2]⟩
theorem parseU_trim (s t : List UInt8) (h : trimL s = trimL t) : parseU s = parseU t ∧ parseE s = parseE t :=
  parseU_of_front s t (by rw [h])
theorem loose_blanks (s : List UInt8) : parseU ([32, 9] ++ s ++ [10]) = parseU s ∧ parseE ([32, 9] ++ s ++ [10]) = parseE s :=
  parseU_trim _ _ (by rw [trimL_behind _ [10] (by decide), trimL_ahead [32, 9] s (by decide)])
theorem parseB_ne (s : List UInt8) (h : parseB s = true) : trimL s ≠ [] := by
  intro e
  unfold parseB at h
  rw [e] at h
  simp [frontL, restL] at h
theorem loose_hash (s m : List UInt8) (h : parseB s = true) (hs : trimL s = s) : parseU (s ++ 35 :: m) = parseU s ∧ parseE (s ++ 35 :: m) = parseE s :=
  parseU_of_front _ _ (front_hash s m hs (by have := parseB_ne s h; rwa [hs] at this))
theorem low_of (p : Int → Bool) (hp : ∀ c : Int, p c = true → ¬ (65 ≤ c ∧ c ≤ 90)) (l : List UInt8) (h : allB p l = true) : lowerL l = l := by
  induction l with
  | nil => rfl
  | cons b l ih =>
    simp only [allB, Bool.and_eq_true] at h
    have h1 := hp _ h.1
    have e : low b = b := by
      unfold low
      rw [if_neg (by omega)]
    show low b :: lowerL l = _
    rw [e, ih h.2]
theorem schByte_small (c : Int) (h : schByte c = true) : ¬ (65 ≤ c ∧ c ≤ 90) := by
  simp [schByte, isLetter, isDigit] at h
  omega
theorem hostByte_small (c : Int) (h : hostByte c = true) : ¬ (65 ≤ c ∧ c ≤ 90) := by
  simp [hostByte, isLetter, isDigit] at h
  omega
theorem schemeB_all (l : List UInt8) (h : schemeB l = true) : allB schByte l = true ∧ l ≠ [] ∧ l.length ≤ 20 := by
  unfold schemeB at h
  simp only [Bool.and_eq_true, decide_eq_true_eq] at h
  refine ⟨h.2, ?_, h.1.1.2⟩
  intro e
  subst e
  simp at h
theorem hostB_all (l : List UInt8) (h : hostB l = true) : allB hostByte l = true ∧ l ≠ [] ∧ l.length ≤ 100 := by
  unfold hostB at h
  simp only [Bool.and_eq_true, decide_eq_true_eq] at h
  refine ⟨h.1.2, ?_, h.1.1.2⟩
  intro e
  subst e
  simp at h
/-- What a right address is of, taken apart. -/
theorem checkB_parts (u : URL) (h : checkB u = true) : schemeB u.sch = true ∧ (u.opq = (defPort u.sch == 0)) ∧ (textL u).length ≤ 500 ∧
    (u.opq = true → u.host = [] ∧ u.query = [] ∧ u.port = 0 ∧ trimL u.path = u.path ∧ allB opqByte u.path = true) ∧
    (u.opq = false → hostB u.host = true ∧ 0 ≤ u.port ∧ u.port ≤ 65535 ∧ u.port ≠ defPort u.sch ∧ allB pathByte u.path = true ∧ u.path ≠ [] ∧ cleanL u.path = u.path ∧ (u.query = [] ∨ ∃ q, u.query = 63 :: q ∧ allB qryByte q = true)) := by
  unfold checkB at h
  simp only [Bool.and_eq_true, decide_eq_true_eq] at h
  obtain ⟨⟨⟨h1, h2⟩, h3⟩, h4⟩ := h
  refine ⟨h1, by simpa using h2, h4, fun ho => ?_, fun ho => ?_⟩
  · rw [if_pos ho] at h3
    simp only [Bool.and_eq_true, beq_iff_eq] at h3
    exact ⟨h3.1.1.1.1, h3.1.1.1.2, h3.1.1.2, h3.1.2, h3.2⟩
  · rw [if_neg (by rw [ho]; decide)] at h3
    simp only [Bool.and_eq_true, beq_iff_eq, decide_eq_true_eq, bne_iff_ne, Bool.or_eq_true] at h3
    obtain ⟨⟨⟨⟨⟨⟨⟨a1, a2⟩, a3⟩, a4⟩, a5⟩, a6⟩, a7⟩, a8⟩ := h3
    refine ⟨a1, a2, a3, a4, a5, a6, a7, ?_⟩
    rcases a8 with a8 | ⟨a8, a9⟩
    · exact .inl a8
    · right
      cases hq : u.query with
      | nil => rw [hq] at a8; simp at a8
      | cons x q =>
        rw [hq] at a8 a9
        refine ⟨q, ?_, a9⟩
        have : x = 63 := by
          apply UInt8.toNat.inj
          show x.toNat = 63
          simp only [List.headD_cons] at a8
          omega
        rw [this]
theorem checkB_small (u : URL) (h : checkB u = true) : lowerL u.sch = u.sch ∧ lowerL u.host = u.host := by
  obtain ⟨h1, h2, h3, h4, h5⟩ := checkB_parts u h
  refine ⟨low_of schByte schByte_small _ (schemeB_all _ h1).1, ?_⟩
  cases ho : u.opq
  · exact low_of hostByte hostByte_small _ (hostB_all _ (h5 ho).1).1
  · rw [(h4 ho).1]; rfl
theorem parseU_right (s : List UInt8) (h : parseB s = true) : checkB (parseU s) = true := by
  unfold parseU
  rw [if_pos h]
  unfold parseB at h
  rw [Bool.and_eq_true] at h
  exact h.2
theorem zeroU_wrong : checkB zeroU = false := by decide +kernel
end Go.Proofs.YtbpijmmhgdemlaaGreatDoor
