/- Plain functions: a text's pieces between slashes, and a path that is cleaned; no condition. -/
import Derived.Test.YtbpijmmhgdemlaaGreatDoorPure
import Derived.Lib.SplitLaws
import Derived.Lib.Atoi
namespace Go.Proofs.YtbpijmmhgdemlaaGreatDoor

/-- What stands between the bytes c of a text. -/
def splitC (c : UInt8) : List UInt8 → List (List UInt8)
  | [] => [[]]
  | b :: l => if b = c then [] :: splitC c l else (splitC c l).modifyHead (b :: ·)
theorem splitC_ne (c : UInt8) (l : List UInt8) : splitC c l ≠ [] := by
  induction l with
  | nil => simp [splitC]
  | cons b l ih =>
    simp only [splitC]
    split
    · simp
    · intro h
      cases hs : splitC c l with
      | nil => exact ih hs
      | cons x xs => rw [hs] at h; simp at h
theorem index_self (c : UInt8) (l : List UInt8) : Lib.index (c :: l) [c] = 0 := by simp [Lib.index]
theorem index_other (b c : UInt8) (l : List UInt8) (h : b ≠ c) : Lib.index (b :: l) [c] = if Lib.index l [c] = -1 then -1 else Lib.index l [c] + 1 := by
  simp [Lib.index, Ne.symm h]
theorem index_ge (c : UInt8) (l : List UInt8) : -1 ≤ Lib.index l [c] := by
  induction l with
  | nil => simp [Lib.index]
  | cons b l ih =>
    by_cases h : b = c
    · subst h; rw [index_self]; decide
    · rw [index_other b c l h]; split <;> omega
theorem splitK_splitC (c : UInt8) (l : List UInt8) : Lib.splitK [c] 0 (Lib.count l [c]) l = splitC c l := by
  induction l with
  | nil => rfl
  | cons b l ih =>
    by_cases h : b = c
    · subst h
      rw [Lib.count_cons_eq, Nat.add_comm]
      simp only [Lib.splitK, splitC, index_self]
      simp [ih]
    · rw [Lib.count_cons_ne b c l h]
      simp only [splitC, if_neg h]
      rw [← ih]
      cases hc : Lib.count l [c] with
      | zero => simp [Lib.splitK]
      | succ k =>
        have hi : Lib.index l [c] ≠ -1 := fun e => by rw [Lib.count_miss e] at hc; omega
        have hg := index_ge c l
        obtain ⟨i, hi2⟩ : ∃ i : Nat, Lib.index l [c] = i := ⟨(Lib.index l [c]).toNat, by omega⟩
        simp only [Lib.splitK]
        rw [index_other b c l h, if_neg hi, hi2]
        have n1 : ((i : Int) + 1 == -1) = false := by rw [beq_eq_false_iff_ne]; omega
        have n2 : ((i : Int) == -1) = false := by rw [beq_eq_false_iff_ne]; omega
        rw [n1, n2]
        simp
theorem splitC_length (c : UInt8) (l : List UInt8) : (splitC c l).length ≤ l.length + 1 := by
  induction l with
  | nil => simp [splitC]
  | cons b l ih =>
    simp only [splitC]
    split
    · simp; omega
    · simp; omega

/-- One piece more of a path that is cleaned. -/
def cleanStep (last : Bool) (st : List (List UInt8)) (p : List UInt8) : List (List UInt8) :=
  if p = [46, 46] then (if last then st.dropLast ++ [[]] else st.dropLast) else if p = [46] then (if last then st ++ [[]] else st) else st ++ [p]
def cleanStk (ps : List (List UInt8)) : Nat → List (List UInt8)
  | 0 => []
  | k + 1 => cleanStep (decide (k + 1 = ps.length)) (cleanStk ps k) (ps.getD k [])
def cleanL (l : List UInt8) : List UInt8 :=
  match l with
  | 47 :: r => 47 :: Lib.join (cleanStk (splitC 47 r) (splitC 47 r).length) [47]
  | _ => []
theorem cleanL_cons (r : List UInt8) : cleanL (47 :: r) = 47 :: Lib.join (cleanStk (splitC 47 r) (splitC 47 r).length) [47] := rfl
theorem cleanStk_length (ps : List (List UInt8)) (k : Nat) : (cleanStk ps k).length ≤ k := by
  induction k with
  | zero => simp [cleanStk]
  | succ k ih =>
    simp only [cleanStk, cleanStep]
    repeat' split
    all_goals first | omega | (simp; omega)

/-- How many bytes texts have together. -/
def totalL : List (List UInt8) → Nat
  | [] => 0
  | x :: xs => x.length + totalL xs
theorem totalL_append (a b : List (List UInt8)) : totalL (a ++ b) = totalL a + totalL b := by
  induction a with
  | nil => simp [totalL]
  | cons x xs ih => simp [totalL, ih]; omega
theorem totalL_dropLast (a : List (List UInt8)) : totalL a.dropLast ≤ totalL a := by
  rcases List.eq_nil_or_concat a with rfl | ⟨ys, y, rfl⟩
  · simp
  · simp [totalL_append]
theorem totalL_splitC (c : UInt8) (l : List UInt8) : totalL (splitC c l) ≤ l.length := by
  induction l with
  | nil => simp [splitC, totalL]
  | cons b l ih =>
    simp only [splitC]
    split
    · simp [totalL]; omega
    · cases hs : splitC c l with
      | nil => exact absurd hs (splitC_ne c l)
      | cons x xs => rw [hs] at ih; simp [totalL] at ih ⊢; omega
theorem totalL_take_succ (ps : List (List UInt8)) (k : Nat) (h : k < ps.length) : totalL (ps.take (k + 1)) = totalL (ps.take k) + (ps.getD k []).length := by
  rw [List.take_succ_eq_append_getElem h, totalL_append]
  simp [totalL, List.getD_eq_getElem?_getD, List.getElem?_eq_getElem h]
theorem totalL_cleanStk (ps : List (List UInt8)) (k : Nat) (h : k ≤ ps.length) : totalL (cleanStk ps k) ≤ totalL (ps.take k) := by
  induction k with
  | zero => simp [cleanStk, totalL]
  | succ k ih =>
    have := ih (by omega)
    rw [totalL_take_succ ps k (by omega)]
    have hd := totalL_dropLast (cleanStk ps k)
    simp only [cleanStk, cleanStep]
    repeat' split
    all_goals first | omega | (simp only [totalL_append, totalL, List.length_nil]; omega)
theorem join_cons (x : List UInt8) (xs : List (List UInt8)) (sep : List UInt8) (h : xs ≠ []) : Lib.join (x :: xs) sep = x ++ sep ++ Lib.join xs sep := by
  cases xs with
  | nil => exact absurd rfl h
  | cons y ys => simp [Lib.join, List.intercalate, List.intersperse]
theorem join_length (xs : List (List UInt8)) (c : UInt8) : (Lib.join xs [c]).length ≤ totalL xs + xs.length := by
  induction xs with
  | nil => simp [Lib.join_nil]
  | cons x xs ih =>
    by_cases h : xs = []
    · subst h; simp [Lib.join_one, totalL]
    · rw [join_cons x xs [c] h]
      simp [totalL]; omega

/-- Is an address right? -/
def checkB (u : URL) : Bool :=
  schemeB u.sch && (u.opq == (defPort u.sch == 0)) &&
  (if u.opq then u.host == [] && u.query == [] && u.port == 0 && trimL u.path == u.path && allB opqByte u.path
   else hostB u.host && decide (0 ≤ u.port) && decide (u.port ≤ 65535) && u.port != defPort u.sch && allB pathByte u.path && u.path != [] && cleanL u.path == u.path && (u.query == [] || (((u.query.headD 0).toNat : Int) == 63 && allB qryByte u.query.tail))) &&
  decide ((textL u).length ≤ 500)
def checkE (u : URL) : Int := if checkB u then 0 else 50

/-- What Print answers. -/
def printL (u : URL) : List UInt8 := if checkB u then textL u else []
/-- What digits say. -/
def digitsL (l : List UInt8) : Nat := l.foldl (fun n b => n * 10 + (b.toNat - 48)) 0
/-- A port behind its colon: 0 of none, -1 of a wrong one. -/
def portL (l : List UInt8) : Int :=
  if l = [] then 0 else if l.length < 2 ∨ 6 < l.length ∨ allB isDigit l.tail = false then -1 else (digitsL l.tail : Int)
theorem decFrom_digits (l : List UInt8) (acc : Nat) (h : allB isDigit l = true) : Lib.decFrom acc l = some (l.foldl (fun n b => n * 10 + (b.toNat - 48)) acc) := by
  induction l generalizing acc with
  | nil => rfl
  | cons b l ih =>
    simp only [allB, Bool.and_eq_true] at h
    have hd : 48 ≤ b.toNat ∧ b.toNat ≤ 57 := by
      have := h.1
      simp [isDigit] at this
      omega
    simp only [Lib.decFrom, Lib.digitVal, if_pos hd, List.foldl_cons]
    exact ih _ h.2
theorem portL_some (b : UInt8) (r : List UInt8) (h1 : 1 ≤ r.length) (h2 : r.length ≤ 5) (h3 : allB isDigit r = true) : ∃ n : Nat, Lib.atoi r = some (n : Int) ∧ portL (b :: r) = n := by
  refine ⟨digitsL r, ?_, ?_⟩
  · have hd := decFrom_digits r 0 h3
    cases r with
    | nil => simp at h1
    | cons x r =>
      have hx : isDigit (x.toNat : Int) = true := by simp only [allB, Bool.and_eq_true] at h3; exact h3.1
      simp [isDigit] at hx
      have n1 : (x == 45) = false := by rw [beq_eq_false_iff_ne]; intro e; subst e; simp at hx
      have n2 : (x == 43) = false := by rw [beq_eq_false_iff_ne]; intro e; subst e; simp at hx
      simp only [Lib.atoi, n1, n2, Lib.decNat]
      simp only [List.isEmpty_cons, Bool.false_eq_true, if_false, hd, Option.map_some]
      rfl
  · unfold portL
    rw [if_neg (by simp), if_neg (by simp [h3]; omega)]
    rfl

theorem frontL_length (l a : List UInt8) : (frontL l a).length ≤ l.length := by
  have := congrArg List.length (front_rest l a)
  simp at this; omega
theorem restL_length (l a : List UInt8) : (restL l a).length ≤ l.length := by
  have := congrArg List.length (front_rest l a)
  simp at this; omega
theorem lowerL_length (l : List UInt8) : (lowerL l).length = l.length := by simp [lowerL]
/-- What stands behind a ranked scheme's colon, read. -/
def rankedL (sch rest : List UInt8) : URL :=
  if Lib.hasPrefix rest [47, 47] then
    ⟨false, sch, lowerL (frontL (frontL (rest.drop 2) [47, 63]) [58]),
      if portL (restL (frontL (rest.drop 2) [47, 63]) [58]) = defPort sch then 0 else portL (restL (frontL (rest.drop 2) [47, 63]) [58]),
      cleanL (if frontL (restL (rest.drop 2) [47, 63]) [63] = [] then [47] else frontL (restL (rest.drop 2) [47, 63]) [63]),
      restL (restL (rest.drop 2) [47, 63]) [63]⟩
  else ⟨false, sch, [], 0, [], []⟩
end Go.Proofs.YtbpijmmhgdemlaaGreatDoor
