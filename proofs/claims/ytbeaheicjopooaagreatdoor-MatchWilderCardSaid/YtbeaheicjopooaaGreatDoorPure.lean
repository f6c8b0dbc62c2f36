/- Plain functions on bytes and lists: what the texts of addresses come to; no condition. -/
import Derived.Lib.SlTrimSet
import Derived.Lib.Split
import Derived.Lib.Join
import Derived.Lib.ItoaNum
import Derived.Lib.SplitLaws
import Derived.Lib.Atoi
import Derived.Lib.IndexMore
namespace Go.Proofs.YtbeaheicjopooaaGreatDoor
def isLetter (c : Int) : Bool := decide (97 ≤ c) && decide (c ≤ 122)
def isDigit (c : Int) : Bool := decide (48 ≤ c) && decide (c ≤ 57)
/-- All bytes of l satisfy p. -/
def allB (p : Int → Bool) : List UInt8 → Bool
  | [] => true
  | b :: l => p b.toNat && allB p l
theorem allB_append (p : Int → Bool) (l m : List UInt8) : allB p (l ++ m) = (allB p l && allB p m) := by
  induction l with
  | nil => simp [allB]
  | cons x l ih => simp [allB, ih, Bool.and_assoc]
theorem allB_snoc (p : Int → Bool) (l : List UInt8) (b : UInt8) : allB p (l ++ [b]) = (allB p l && p b.toNat) := by
  rw [allB_append]; simp [allB]
theorem allB_false (p : Int → Bool) (l : List UInt8) (k : Nat) (h : k < l.length) (hp : p (l[k]).toNat = false) : allB p l = false := by
  induction l generalizing k with
  | nil => simp at h
  | cons x l ih =>
    cases k with
    | zero => simp at hp; simp [allB, hp]
    | succ k => simp [allB, ih k (by simpa using h) (by simpa using hp)]
theorem allB_take (p : Int → Bool) (l : List UInt8) (k : Nat) (h : k < l.length) : allB p (l.take (k + 1)) = (allB p (l.take k) && p (l[k]).toNat) := by
  rw [List.take_succ_eq_append_getElem h, allB_snoc]
theorem allB_iff (p : Int → Bool) (l : List UInt8) : allB p l = true ↔ ∀ b ∈ l, p b.toNat = true := by
  induction l with
  | nil => simp [allB]
  | cons x l ih => simp [allB, ih]
theorem allB_congr {p q : Int → Bool} (l : List UInt8) (h : ∀ b ∈ l, p b.toNat = q b.toNat) : allB p l = allB q l := by
  induction l with
  | nil => rfl
  | cons x l ih =>
    simp only [allB]
    rw [h x (by simp), ih (fun b hb => h b (by simp [hb]))]

/-- A byte of a scheme. -/
def schByte (c : Int) : Bool := isLetter c || isDigit c || c == 43 || c == 45 || c == 46
/-- A byte of a host. -/
def hostByte (c : Int) : Bool := isLetter c || isDigit c || c == 45 || c == 46
/-- A byte of a path. -/
def pathByte (c : Int) : Bool := decide (32 < c) && decide (c < 127) && c != 63 && c != 35
/-- A byte of what stands behind an opaque scheme. -/
def opqByte (c : Int) : Bool := decide (32 ≤ c) && decide (c < 127) && c != 35
/-- A byte of a query. -/
def qryByte (c : Int) : Bool := pathByte c || c == 63
def schemeB (l : List UInt8) : Bool := !l.isEmpty && decide (l.length ≤ 20) && isLetter ((l.headD 0).toNat : Int) && allB schByte l
/-- A scheme's own port. -/
def defPort (l : List UInt8) : Int :=
  if l = [104, 116, 116, 112] ∨ l = [119, 115] then 80 else if l = [104, 116, 116, 112, 115] ∨ l = [119, 115, 115] then 443 else 0
def hostB (l : List UInt8) : Bool := !l.isEmpty && decide (l.length ≤ 100) && allB hostByte l && !Lib.contains ([46] ++ l ++ [46]) [46, 46]

/-- A text without the blanks at its ends. -/
def trimL (l : List UInt8) : List UInt8 := Lib.trimS l [9, 10, 12, 13, 32]
/-- A byte, a great letter its small one. -/
def low (b : UInt8) : UInt8 := if 65 ≤ b.toNat ∧ b.toNat ≤ 90 then b + 32 else b
def lowerL (l : List UInt8) : List UInt8 := l.map low
/-- A text whose first k letters are made small. -/
def mixL (l : List UInt8) (k : Nat) : List UInt8 := lowerL (l.take k) ++ l.drop k
theorem mixL_length (l : List UInt8) (k : Nat) : (mixL l k).length = l.length := by
  simp [mixL, lowerL]; omega
theorem mixL_at (l : List UInt8) (k : Nat) (h : k < l.length) : (mixL l k)[k]'(by rw [mixL_length]; exact h) = l[k] := by
  simp only [mixL, lowerL]
  rw [List.getElem_append_right (by simp; omega)]
  simp [Nat.min_eq_left (Nat.le_of_lt h)]
theorem mixL_succ (l : List UInt8) (k : Nat) (h : k < l.length) : mixL l (k + 1) = (mixL l k).set k (low l[k]) := by
  simp only [mixL, lowerL]
  have e : l.drop k = l[k] :: l.drop (k + 1) := List.drop_eq_getElem_cons h
  rw [List.take_succ_eq_append_getElem h, List.map_append, List.set_append_right _ _ (by simp; omega), e]
  simp [Nat.min_eq_left (Nat.le_of_lt h), -List.getElem_cons_drop]
theorem mixL_zero (l : List UInt8) : mixL l 0 = l := by simp [mixL, lowerL]
theorem mixL_all (l : List UInt8) : mixL l l.length = lowerL l := by simp [mixL, lowerL]
theorem mixL_same (l : List UInt8) (k : Nat) (h : k < l.length) (hl : low l[k] = l[k]) : mixL l (k + 1) = mixL l k := by
  rw [mixL_succ l k h, hl]
  have := mixL_at l k h
  apply List.ext_getElem
  · simp
  · intro i h1 h2
    rw [List.getElem_set]
    split
    · rename_i e; subst e; exact this.symm
    · rfl

/-- What is ahead of the first byte of a, and what stands from there on. -/
def frontL (l a : List UInt8) : List UInt8 := l.takeWhile (fun b => !a.contains b)
def restL (l a : List UInt8) : List UInt8 := l.dropWhile (fun b => !a.contains b)
/-- Where the first byte of a stands in l, or -1. -/
def anyAtL (l a : List UInt8) : Int := if restL l a = [] then -1 else ((frontL l a).length : Int)
theorem front_rest (l a : List UInt8) : frontL l a ++ restL l a = l := List.takeWhile_append_dropWhile
theorem span_at (p : UInt8 → Bool) (l : List UInt8) (k : Nat) (hk : k < l.length) (hall : ∀ j (h : j < l.length), j < k → p l[j] = true) (hf : p l[k] = false) :
    l.takeWhile p = l.take k ∧ l.dropWhile p = l.drop k := by
  induction l generalizing k with
  | nil => simp at hk
  | cons x l ih =>
    cases k with
    | zero => simp at hf; simp [hf]
    | succ k =>
      have h0 : p x = true := hall 0 (by simp) (by omega)
      have := ih k (by simpa using hk) (fun j h hj => hall (j + 1) (by simpa using h) (by omega)) (by simpa using hf)
      simp [h0, this.1, this.2]
theorem span_none (p : UInt8 → Bool) (l : List UInt8) (hall : ∀ j (h : j < l.length), p l[j] = true) : l.takeWhile p = l ∧ l.dropWhile p = [] := by
  induction l with
  | nil => simp
  | cons x l ih =>
    have h0 : p x = true := hall 0 (by simp)
    have := ih (fun j h => hall (j + 1) (by simpa using h))
    simp [h0, this.1, this.2]
theorem anyAtL_at (l a : List UInt8) (k : Nat) (hk : k < l.length) (hall : ∀ j (h : j < l.length), j < k → l[j] ∉ a) (hf : l[k] ∈ a) : anyAtL l a = k := by
  obtain ⟨h1, h2⟩ := span_at (fun b => !a.contains b) l k hk (fun j h hj => by simpa using hall j h hj) (by simpa using hf)
  unfold anyAtL frontL restL
  rw [h1, h2, if_neg (by simp; omega)]
  simp; omega
theorem anyAtL_none (l a : List UInt8) (hall : ∀ j (h : j < l.length), l[j] ∉ a) : anyAtL l a = -1 := by
  obtain ⟨_, h2⟩ := span_none (fun b => !a.contains b) l (fun j h => by simpa using hall j h)
  unfold anyAtL restL
  rw [h2, if_pos rfl]
theorem anyAtL_neg (l a : List UInt8) (h : anyAtL l a < 0) : frontL l a = l ∧ restL l a = [] := by
  unfold anyAtL at h
  split at h
  · rename_i e
    have := front_rest l a
    rw [e, List.append_nil] at this
    exact ⟨this, e⟩
  · omega
theorem anyAtL_pos (l a : List UInt8) (h : 0 ≤ anyAtL l a) : frontL l a = l.take (anyAtL l a).toNat ∧ restL l a = l.drop (anyAtL l a).toNat ∧ (anyAtL l a).toNat ≤ l.length := by
  have e := front_rest l a
  unfold anyAtL at h ⊢
  split at h
  · omega
  · rename_i hne
    rw [if_neg hne]
    simp only [Int.toNat_natCast]
    have hlen : (frontL l a).length ≤ l.length := by
      have := congrArg List.length e
      simp at this; omega
    have e1 : (frontL l a ++ restL l a).take (frontL l a).length = frontL l a := by simp
    have e2 : (frontL l a ++ restL l a).drop (frontL l a).length = restL l a := by simp
    rw [e] at e1 e2
    exact ⟨e1.symm, e2.symm, hlen⟩

structure URL where
  opq : Bool
  sch : List UInt8
  host : List UInt8
  port : Int
  path : List UInt8
  query : List UInt8
deriving DecidableEq
/-- An address' text. -/
def textL (u : URL) : List UInt8 :=
  if u.opq then u.sch ++ [58] ++ u.path else u.sch ++ [58, 47, 47] ++ u.host ++ (if u.port = 0 then [] else [58] ++ Lib.itoa u.port) ++ u.path ++ u.query


/-- What stands between the bytes c of a text. -/
def splitC (c : UInt8) : List UInt8 → List (List UInt8)
  | [] => [[]]
  | b :: l => if b = c then [] :: splitC c l else (splitC c l).modifyHead (b :: ·)
theorem splitC_ne (c : UInt8) (l : List UInt8) : splitC c l ≠ [] := by
  induction l with
  | nil => simp [splitC]
  | cons b l ih =>
    simp only [splitC]
    split
    · simp
    · intro h
      cases hs : splitC c l with
      | nil => exact ih hs
      | cons x xs => rw [hs] at h; simp at h
theorem index_self (c : UInt8) (l : List UInt8) : Lib.index (c :: l) [c] = 0 := by simp [Lib.index]
theorem index_other (b c : UInt8) (l : List UInt8) (h : b ≠ c) : Lib.index (b :: l) [c] = if Lib.index l [c] = -1 then -1 else Lib.index l [c] + 1 := by
  simp [Lib.index, Ne.symm h]
theorem index_ge (c : UInt8) (l : List UInt8) : -1 ≤ Lib.index l [c] := by
  induction l with
  | nil => simp [Lib.index]
  | cons b l ih =>
    by_cases h : b = c
    · subst h; rw [index_self]; decide
    · rw [index_other b c l h]; split <;> omega
theorem splitK_splitC (c : UInt8) (l : List UInt8) : Lib.splitK [c] 0 (Lib.count l [c]) l = splitC c l := by
  induction l with
  | nil => rfl
  | cons b l ih =>
    by_cases h : b = c
    · subst h
      rw [Lib.count_cons_eq, Nat.add_comm]
      simp only [Lib.splitK, splitC, index_self]
      simp [ih]
    · rw [Lib.count_cons_ne b c l h]
      simp only [splitC, if_neg h]
      rw [← ih]
      cases hc : Lib.count l [c] with
      | zero => simp [Lib.splitK]
      | succ k =>
        have hi : Lib.index l [c] ≠ -1 := fun e => by rw [Lib.count_miss e] at hc; omega
        have hg := index_ge c l
        obtain ⟨i, hi2⟩ : ∃ i : Nat, Lib.index l [c] = i := ⟨(Lib.index l [c]).toNat, by omega⟩
        simp only [Lib.splitK]
        rw [index_other b c l h, if_neg hi, hi2]
        have n1 : ((i : Int) + 1 == -1) = false := by rw [beq_eq_false_iff_ne]; omega
        have n2 : ((i : Int) == -1) = false := by rw [beq_eq_false_iff_ne]; omega
        rw [n1, n2]
        simp
theorem splitC_length (c : UInt8) (l : List UInt8) : (splitC c l).length ≤ l.length + 1 := by
  induction l with
  | nil => simp [splitC]
  | cons b l ih =>
    simp only [splitC]
    split
    · simp; omega
    · simp; omega

/-- One piece more of a path that is cleaned. -/
def cleanStep (last : Bool) (st : List (List UInt8)) (p : List UInt8) : List (List UInt8) :=
  if p = [46, 46] then (if last then st.dropLast ++ [[]] else st.dropLast) else if p = [46] then (if last then st ++ [[]] else st) else st ++ [p]
def cleanStk (ps : List (List UInt8)) : Nat → List (List UInt8)
  | 0 => []
  | k + 1 => cleanStep (decide (k + 1 = ps.length)) (cleanStk ps k) (ps.getD k [])
def cleanL (l : List UInt8) : List UInt8 :=
  match l with
  | 47 :: r => 47 :: Lib.join (cleanStk (splitC 47 r) (splitC 47 r).length) [47]
  | _ => []
theorem cleanL_cons (r : List UInt8) : cleanL (47 :: r) = 47 :: Lib.join (cleanStk (splitC 47 r) (splitC 47 r).length) [47] := rfl
theorem cleanStk_length (ps : List (List UInt8)) (k : Nat) : (cleanStk ps k).length ≤ k := by
  induction k with
  | zero => simp [cleanStk]
  | succ k ih =>
    simp only [cleanStk, cleanStep]
    repeat' split
    all_goals first | omega | (simp; omega)

/-- How many bytes texts have together. -/
def totalL : List (List UInt8) → Nat
  | [] => 0
  | x :: xs => x.length + totalL xs
theorem totalL_append (a b : List (List UInt8)) : totalL (a ++ b) = totalL a + totalL b := by
  induction a with
  | nil => simp [totalL]
  | cons x xs ih => simp [totalL, ih]; omega
theorem totalL_dropLast (a : List (List UInt8)) : totalL a.dropLast ≤ totalL a := by
  rcases List.eq_nil_or_concat a with rfl | ⟨ys, y, rfl⟩
  · simp
  · simp [totalL_append]
theorem totalL_splitC (c : UInt8) (l : List UInt8) : totalL (splitC c l) ≤ l.length := by
  induction l with
  | nil => simp [splitC, totalL]
  | cons b l ih =>
    simp only [splitC]
    split
    · simp [totalL]; omega
    · cases hs : splitC c l with
      | nil => exact absurd hs (splitC_ne c l)
      | cons x xs => rw [hs] at ih; simp [totalL] at ih ⊢; omega
theorem totalL_take_succ (ps : List (List UInt8)) (k : Nat) (h : k < ps.length) : totalL (ps.take (k + 1)) = totalL (ps.take k) + (ps.getD k []).length := by
  rw [List.take_succ_eq_append_getElem h, totalL_append]
  simp [totalL, List.getD_eq_getElem?_getD, List.getElem?_eq_getElem h]
theorem totalL_cleanStk (ps : List (List UInt8)) (k : Nat) (h : k ≤ ps.length) : totalL (cleanStk ps k) ≤ totalL (ps.take k) := by
  induction k with
  | zero => simp [cleanStk, totalL]
  | succ k ih =>
    have := ih (by omega)
    rw [totalL_take_succ ps k (by omega)]
    have hd := totalL_dropLast (cleanStk ps k)
    simp only [cleanStk, cleanStep]
    repeat' split
    all_goals first | omega | (simp only [totalL_append, totalL, List.length_nil]; omega)
theorem join_cons (x : List UInt8) (xs : List (List UInt8)) (sep : List UInt8) (h : xs ≠ []) : Lib.join (x :: xs) sep = x ++ sep ++ Lib.join xs sep := by
  cases xs with
  | nil => exact absurd rfl h
  | cons y ys => simp [Lib.join, List.intercalate, List.intersperse]
theorem join_length (xs : List (List UInt8)) (c : UInt8) : (Lib.join xs [c]).length ≤ totalL xs + xs.length := by
  induction xs with
  | nil => simp [Lib.join_nil]
  | cons x xs ih =>
    by_cases h : xs = []
    · subst h; simp [Lib.join_one, totalL]
    · rw [join_cons x xs [c] h]
      simp [totalL]; omega

/-- Is an address right? -/
def checkB (u : URL) : Bool :=
  schemeB u.sch && (u.opq == (defPort u.sch == 0)) &&
  (if u.opq then u.host == [] && u.query == [] && u.port == 0 && trimL u.path == u.path && allB opqByte u.path
   else hostB u.host && decide (0 ≤ u.port) && decide (u.port ≤ 65535) && u.port != defPort u.sch && allB pathByte u.path && u.path != [] && cleanL u.path == u.path && (u.query == [] || (((u.query.headD 0).toNat : Int) == 63 && allB qryByte u.query.tail))) &&
  decide ((textL u).length ≤ 500)
def checkE (u : URL) : Int := if checkB u then 0 else 50

/-- What Print answers. -/
def printL (u : URL) : List UInt8 := if checkB u then textL u else []
/-- What digits say. -/
def digitsL (l : List UInt8) : Nat := l.foldl (fun n b => n * 10 + (b.toNat - 48)) 0
/-- A port behind its colon: 0 of none, -1 of a wrong one. -/
def portL (l : List UInt8) : Int :=
  if l = [] then 0 else if l.length < 2 ∨ 6 < l.length ∨ allB isDigit l.tail = false then -1 else (digitsL l.tail : Int)
theorem decFrom_digits (l : List UInt8) (acc : Nat) (h : allB isDigit l = true) : Lib.decFrom acc l = some (l.foldl (fun n b => n * 10 + (b.toNat - 48)) acc) := by
  induction l generalizing acc with
  | nil => rfl
  | cons b l ih =>
    simp only [allB, Bool.and_eq_true] at h
    have hd : 48 ≤ b.toNat ∧ b.toNat ≤ 57 := by
      have := h.1
      simp [isDigit] at this
      omega
    simp only [Lib.decFrom, Lib.digitVal, if_pos hd, List.foldl_cons]
    exact ih _ h.2
theorem portL_some (b : UInt8) (r : List UInt8) (h1 : 1 ≤ r.length) (h2 : r.length ≤ 5) (h3 : allB isDigit r = true) : ∃ n : Nat, Lib.atoi r = some (n : Int) ∧ portL (b :: r) = n := by
  refine ⟨digitsL r, ?_, ?_⟩
  · have hd := decFrom_digits r 0 h3
    cases r with
    | nil => simp at h1
    | cons x r =>
      have hx : isDigit (x.toNat : Int) = true := by simp only [allB, Bool.and_eq_true] at h3; exact h3.1
      simp [isDigit] at hx
      have n1 : (x == 45) = false := by rw [beq_eq_false_iff_ne]; intro e; subst e; simp at hx
      have n2 : (x == 43) = false := by rw [beq_eq_false_iff_ne]; intro e; subst e; simp at hx
      simp only [Lib.atoi, n1, n2, Lib.decNat]
      simp only [List.isEmpty_cons, Bool.false_eq_true, if_false, hd, Option.map_some]
      rfl
  · unfold portL
    rw [if_neg (by simp), if_neg (by simp [h3]; omega)]
    rfl

theorem frontL_length (l a : List UInt8) : (frontL l a).length ≤ l.length := by
  have := congrArg List.length (front_rest l a)
  simp at this; omega
theorem restL_length (l a : List UInt8) : (restL l a).length ≤ l.length := by
  have := congrArg List.length (front_rest l a)
  simp at this; omega
theorem lowerL_length (l : List UInt8) : (lowerL l).length = l.length := by simp [lowerL]
/-- What stands behind a ranked scheme's colon, read. -/
def rankedL (sch rest : List UInt8) : URL :=
  if Lib.hasPrefix rest [47, 47] then
    ⟨false, sch, lowerL (frontL (frontL (rest.drop 2) [47, 63]) [58]),
      if portL (restL (frontL (rest.drop 2) [47, 63]) [58]) = defPort sch then 0 else portL (restL (frontL (rest.drop 2) [47, 63]) [58]),
      cleanL (if frontL (restL (rest.drop 2) [47, 63]) [63] = [] then [47] else frontL (restL (rest.drop 2) [47, 63]) [63]),
      restL (restL (rest.drop 2) [47, 63]) [63]⟩
  else ⟨false, sch, [], 0, [], []⟩

/-- The address that a text tells, not yet asked whether it is right. -/
def rawU (s : List UInt8) : URL :=
  if defPort (lowerL (frontL (frontL (trimL s) [35]) [58])) = 0 then
    ⟨true, lowerL (frontL (frontL (trimL s) [35]) [58]), [], 0, trimL ((restL (frontL (trimL s) [35]) [58]).drop 1), []⟩
  else rankedL (lowerL (frontL (frontL (trimL s) [35]) [58])) ((restL (frontL (trimL s) [35]) [58]).drop 1)
def zeroU : URL := ⟨false, [], [], 0, [], []⟩
/-- Does a text tell an address? -/
def parseB (s : List UInt8) : Bool := restL (frontL (trimL s) [35]) [58] != [] && checkB (rawU s)
def parseU (s : List UInt8) : URL := if parseB s then rawU s else zeroU
def parseE (s : List UInt8) : Int := if parseB s then 0 else 50
theorem dropWhile_length (p : UInt8 → Bool) (l : List UInt8) : (l.dropWhile p).length ≤ l.length := by
  induction l with
  | nil => simp
  | cons b l ih =>
    simp only [List.dropWhile_cons]
    split
    · simp; omega
    · simp
theorem trimL_length (l : List UInt8) : (trimL l).length ≤ l.length := by
  unfold trimL Lib.trimS Lib.trimLeftS Lib.trimRightS
  have h1 := dropWhile_length (fun b => [9, 10, 12, 13, 32].contains b) l.reverse
  have h2 := dropWhile_length (fun b => [9, 10, 12, 13, 32].contains b) (l.reverse.dropWhile (fun b => [9, 10, 12, 13, 32].contains b)).reverse
  simp only [List.length_reverse] at h1 h2
  exact Nat.le_trans h2 h1
theorem cleanL_length2 (l : List UInt8) : (cleanL l).length ≤ 2 * l.length + 2 := by
  unfold cleanL
  split
  · rename_i r
    have h1 := join_length (cleanStk (splitC 47 r) (splitC 47 r).length) 47
    have h2 := totalL_cleanStk (splitC 47 r) _ (Nat.le_refl _)
    rw [List.take_length] at h2
    have h3 := totalL_splitC 47 r
    have h4 := cleanStk_length (splitC 47 r) (splitC 47 r).length
    have h5 := splitC_length 47 r
    simp only [List.length_cons]
    omega
  · simp
theorem digitsL_lt (l : List UInt8) (acc : Nat) (h : allB isDigit l = true) : l.foldl (fun n b => n * 10 + (b.toNat - 48)) acc < (acc + 1) * 10 ^ l.length := by
  induction l generalizing acc with
  | nil => simp
  | cons b l ih =>
    simp only [allB, Bool.and_eq_true] at h
    have hd : 48 ≤ b.toNat ∧ b.toNat ≤ 57 := by
      have := h.1
      simp [isDigit] at this
      omega
    have := ih (acc * 10 + (b.toNat - 48)) h.2
    simp only [List.foldl_cons, List.length_cons, Nat.pow_succ]
    refine Nat.lt_of_lt_of_le this ?_
    rw [Nat.mul_comm (10 ^ l.length) 10, ← Nat.mul_assoc]
    exact Nat.mul_le_mul_right _ (by omega)
theorem portL_bounds (l : List UInt8) : -1 ≤ portL l ∧ portL l < 100000 := by
  unfold portL
  split
  · omega
  · split
    · omega
    · rename_i h1 h2
      have h3 : allB isDigit l.tail = true := by
        cases h : allB isDigit l.tail
        · exact absurd (.inr (.inr h)) h2
        · rfl
      have h4 := digitsL_lt l.tail 0 h3
      have h5 : l.tail.length ≤ 5 := by rw [List.length_tail]; omega
      have h6 : 10 ^ l.tail.length ≤ 10 ^ 5 := Nat.pow_le_pow_right (by omega) h5
      unfold digitsL
      omega
theorem defPort_bounds (l : List UInt8) : 0 ≤ defPort l ∧ defPort l ≤ 443 := by
  unfold defPort
  split
  · omega
  · split <;> omega
theorem rankedL_bounds (sch rest : List UInt8) (h1 : sch.length ≤ 400000) (h2 : rest.length ≤ 400000) :
    (rankedL sch rest).sch.length ≤ 1000000 ∧ (rankedL sch rest).host.length ≤ 1000000 ∧ (rankedL sch rest).path.length ≤ 1000000 ∧ (rankedL sch rest).query.length ≤ 1000000 ∧ -1 ≤ (rankedL sch rest).port ∧ (rankedL sch rest).port ≤ 100000 := by
  unfold rankedL
  split
  · have a1 := frontL_length (rest.drop 2) [47, 63]
    have a2 := restL_length (rest.drop 2) [47, 63]
    rw [List.length_drop] at a1 a2
    have a3 := frontL_length (frontL (rest.drop 2) [47, 63]) [58]
    have a4 := frontL_length (restL (rest.drop 2) [47, 63]) [63]
    have a5 := restL_length (restL (rest.drop 2) [47, 63]) [63]
    have a6 := portL_bounds (restL (frontL (rest.drop 2) [47, 63]) [58])
    refine ⟨by show sch.length ≤ _; omega, by show (lowerL _).length ≤ _; rw [lowerL_length]; omega, ?_, by show (restL (restL (rest.drop 2) [47, 63]) [63]).length ≤ _; omega, ?_, ?_⟩
    · show (cleanL _).length ≤ _
      refine Nat.le_trans (cleanL_length2 _) ?_
      split
      · simp
      · omega
    · show (-1 : Int) ≤ (if _ then _ else _)
      split <;> omega
    · show (if _ then _ else _) ≤ (100000 : Int)
      split <;> omega
  · exact ⟨by show sch.length ≤ _; omega, by simp, by simp, by simp, by simp, by simp⟩

theorem splitC_no (c : UInt8) (l : List UInt8) : ∀ p ∈ splitC c l, c ∉ p := by
  induction l with
  | nil => intro p hp; simp [splitC] at hp; subst hp; simp
  | cons b l ih =>
    intro p hp
    simp only [splitC] at hp
    split at hp
    · rcases List.mem_cons.1 hp with rfl | hp
      · simp
      · exact ih p hp
    · rename_i hb
      cases hs : splitC c l with
      | nil => exact absurd hs (splitC_ne c l)
      | cons x xs =>
        rw [hs] at hp ih
        simp only [List.modifyHead_cons, List.mem_cons] at hp
        rcases hp with rfl | hp
        · have := ih x (by simp)
          simp only [List.mem_cons, not_or]
          exact ⟨fun e => hb e.symm, this⟩
        · exact ih p (by simp [hp])
theorem splitC_whole (c : UInt8) (x : List UInt8) (h : c ∉ x) : splitC c x = [x] := by
  induction x with
  | nil => rfl
  | cons b x ih =>
    simp only [List.mem_cons, not_or] at h
    simp only [splitC, if_neg (Ne.symm h.1), ih h.2, List.modifyHead_cons]
theorem splitC_append (c : UInt8) (x m : List UInt8) (h : c ∉ x) : splitC c (x ++ c :: m) = x :: splitC c m := by
  induction x with
  | nil => simp [splitC]
  | cons b x ih =>
    simp only [List.mem_cons, not_or] at h
    simp only [List.cons_append, splitC, if_neg (Ne.symm h.1), ih h.2, List.modifyHead_cons]
theorem splitC_join (c : UInt8) (xs : List (List UInt8)) (hn : xs ≠ []) (h : ∀ x ∈ xs, c ∉ x) : splitC c (Lib.join xs [c]) = xs := by
  induction xs with
  | nil => exact absurd rfl hn
  | cons x xs ih =>
    by_cases e : xs = []
    · subst e
      rw [Lib.join_one]
      exact splitC_whole c x (h x (by simp))
    · rw [join_cons x xs [c] e, List.append_assoc, List.singleton_append, splitC_append c x _ (h x (by simp)), ih e (fun y hy => h y (by simp [hy]))]
theorem join_splitC (c : UInt8) (l : List UInt8) : Lib.join (splitC c l) [c] = l := by
  induction l with
  | nil => rfl
  | cons b l ih =>
    simp only [splitC]
    split
    · rename_i hb
      subst hb
      rw [join_cons _ _ _ (splitC_ne b l), ih]
      rfl
    · cases hs : splitC c l with
      | nil => exact absurd hs (splitC_ne c l)
      | cons x xs =>
        rw [hs] at ih
        simp only [List.modifyHead_cons]
        by_cases e : xs = []
        · subst e
          rw [Lib.join_one] at ih ⊢
          rw [ih]
        · rw [join_cons _ _ _ e] at ih ⊢
          rw [← ih]
          rfl
/-- A piece that stays. -/
def stays (p : List UInt8) : Prop := p ≠ [46] ∧ p ≠ [46, 46]
theorem cleanStk_take (ps : List (List UInt8)) (h : ∀ p ∈ ps, stays p) (k : Nat) (hk : k ≤ ps.length) : cleanStk ps k = ps.take k := by
  induction k with
  | zero => simp [cleanStk]
  | succ k ih =>
    have hm : ps.getD k [] ∈ ps := by
      rw [List.getD_eq_getElem?_getD, List.getElem?_eq_getElem (by omega)]
      exact List.getElem_mem _
    have hs := h _ hm
    simp only [cleanStk, cleanStep, ih (by omega)]
    rw [if_neg hs.2, if_neg hs.1, List.take_succ_eq_append_getElem (by omega)]
    simp [List.getD_eq_getElem?_getD, List.getElem?_eq_getElem (show k < ps.length by omega)]
theorem cleanStk_good (c : UInt8) (ps : List (List UInt8)) (h : ∀ p ∈ ps, c ∉ p) (k : Nat) : ∀ q ∈ cleanStk ps k, c ∉ q ∧ stays q := by
  induction k with
  | zero => simp [cleanStk]
  | succ k ih =>
    have hm : c ∉ ps.getD k [] := by
      rw [List.getD_eq_getElem?_getD]
      cases e : ps[k]? with
      | none => simp
      | some y => exact h y (List.mem_of_getElem? e)
    have hd : ∀ q ∈ (cleanStk ps k).dropLast, c ∉ q ∧ stays q := fun q hq => ih q ((List.dropLast_sublist _).subset hq)
    have h0 : c ∉ ([] : List UInt8) ∧ stays [] := ⟨by simp, by simp [stays]⟩
    intro q hq
    simp only [cleanStk, cleanStep] at hq
    split at hq
    · split at hq
      · rcases List.mem_append.1 hq with hq | hq
        · exact hd q hq
        · rw [List.mem_singleton.1 hq]; exact h0
      · exact hd q hq
    · split at hq
      · split at hq
        · rcases List.mem_append.1 hq with hq | hq
          · exact ih q hq
          · rw [List.mem_singleton.1 hq]; exact h0
        · exact ih q hq
      · rename_i h1 h2
        rcases List.mem_append.1 hq with hq | hq
        · exact ih q hq
        · rw [List.mem_singleton.1 hq]; exact ⟨hm, h2, h1⟩
theorem cleanStk_ne (ps : List (List UInt8)) (h : ps ≠ []) : cleanStk ps ps.length ≠ [] := by
  cases e : ps.length with
  | zero => exact absurd (List.eq_nil_of_length_eq_zero e) h
  | succ k =>
    simp only [cleanStk, cleanStep, e]
    simp only [decide_true, if_true]
    repeat' split
    all_goals simp
/-- What texts weigh, one for each. -/
def heft (xs : List (List UInt8)) : Nat := totalL xs + xs.length
theorem heft_snoc (xs : List (List UInt8)) (x : List UInt8) : heft (xs ++ [x]) = heft xs + x.length + 1 := by
  simp [heft, totalL_append, totalL]; omega
theorem heft_dropLast (xs : List (List UInt8)) : heft xs.dropLast ≤ heft xs := by
  have := totalL_dropLast xs
  simp only [heft, List.length_dropLast]
  omega
theorem heft_take (ps : List (List UInt8)) (k : Nat) (h : k < ps.length) : heft (ps.take (k + 1)) = heft (ps.take k) + (ps.getD k []).length + 1 := by
  have := totalL_take_succ ps k h
  simp only [heft, List.length_take]
  omega
theorem heft_cleanStk (ps : List (List UInt8)) (k : Nat) (h : k ≤ ps.length) : heft (cleanStk ps k) ≤ heft (ps.take k) := by
  induction k with
  | zero => simp [cleanStk, heft, totalL]
  | succ k ih =>
    have i := ih (by omega)
    have hd := heft_dropLast (cleanStk ps k)
    rw [heft_take ps k (by omega)]
    simp only [cleanStk, cleanStep]
    repeat' split
    all_goals first | omega | (rw [heft_snoc]; omega) | (rw [heft_snoc, List.length_nil]; omega)
theorem heft_join (xs : List (List UInt8)) (c : UInt8) (h : xs ≠ []) : (Lib.join xs [c]).length + 1 = heft xs := by
  induction xs with
  | nil => exact absurd rfl h
  | cons x xs ih =>
    by_cases e : xs = []
    · subst e; simp [Lib.join_one, heft, totalL]
    · rw [join_cons x xs [c] e]
      have := ih e
      simp [heft, totalL] at this ⊢; omega
theorem cleanL_length (l : List UInt8) : (cleanL l).length ≤ l.length := by
  unfold cleanL
  split
  · rename_i r
    have h1 := heft_join _ 47 (cleanStk_ne (splitC 47 r) (splitC_ne 47 r))
    have h2 := heft_cleanStk (splitC 47 r) _ (Nat.le_refl _)
    have h3 := heft_join (splitC 47 r) 47 (splitC_ne 47 r)
    rw [List.take_length] at h2
    rw [join_splitC] at h3
    simp only [List.length_cons]
    omega
  · simp
/-- A path is clean: it begins with a slash and no piece of it is of dots alone. -/
theorem cleanL_same (r : List UInt8) (h : ∀ p ∈ splitC 47 r, stays p) : cleanL (47 :: r) = 47 :: r := by
  rw [cleanL_cons, cleanStk_take _ h _ (Nat.le_refl _), List.take_length, join_splitC]
theorem cleanL_stays (r : List UInt8) : ∃ m, cleanL (47 :: r) = 47 :: m ∧ ∀ p ∈ splitC 47 m, stays p := by
  refine ⟨_, cleanL_cons r, ?_⟩
  have hg := cleanStk_good 47 (splitC 47 r) (splitC_no 47 r) (splitC 47 r).length
  rw [splitC_join 47 _ (cleanStk_ne _ (splitC_ne 47 r)) (fun x hx => (hg x hx).1)]
  exact fun p hp => (hg p hp).2
theorem cleanL_twice (l : List UInt8) : cleanL (cleanL l) = cleanL l := by
  by_cases h : ∃ r, l = 47 :: r
  · obtain ⟨r, rfl⟩ := h
    obtain ⟨m, hm, hs⟩ := cleanL_stays r
    rw [hm, cleanL_same m hs]
  · have : cleanL l = [] := by
      unfold cleanL
      split
      · rename_i r; exact absurd ⟨r, rfl⟩ h
      · rfl
    rw [this]
    rfl
theorem cleanL_iff_same (r : List UInt8) : cleanL (47 :: r) = 47 :: r ↔ ∀ p ∈ splitC 47 r, stays p := by
  refine ⟨fun h => ?_, cleanL_same r⟩
  obtain ⟨m, hm, hs⟩ := cleanL_stays r
  rw [h] at hm
  rw [(List.cons.inj hm).2]
  exact hs
theorem cleanL_other (b : UInt8) (r : List UInt8) (h : b ≠ 47) : cleanL (b :: r) = [] := by
  unfold cleanL
  split
  · rename_i e; exact absurd (List.cons.inj e).1 h
  · rfl

/-- Do two dots stand side by side? -/
def dd : List UInt8 → Bool
  | a :: b :: t => (a == 46 && b == 46) || dd (b :: t)
  | _ => false
theorem index_dots_ge (l : List UInt8) : -1 ≤ Lib.index l [46, 46] := by
  induction l with
  | nil => decide
  | cons b t ih =>
    simp only [Lib.index]
    split
    · decide
    · split <;> omega
theorem index_step (a : UInt8) (l : List UInt8) : Lib.index (a :: l) [46, 46] = if List.isPrefixOf [46, 46] (a :: l) then 0 else if Lib.index l [46, 46] == -1 then -1 else Lib.index l [46, 46] + 1 := rfl
theorem index_dots_iff (l : List UInt8) : 0 ≤ Lib.index l [46, 46] ↔ dd l = true := by
  induction l with
  | nil => simp [Lib.index, dd]
  | cons a l ih =>
    have hg := index_dots_ge l
    cases l with
    | nil => simp [Lib.index, dd, List.isPrefixOf]
    | cons b t =>
      rw [index_step, dd, Bool.or_eq_true, ← ih]
      generalize Lib.index (b :: t) [46, 46] = x at hg ⊢
      by_cases h : a = 46 ∧ b = 46
      · obtain ⟨rfl, rfl⟩ := h
        simp [List.isPrefixOf]
      · have hp : List.isPrefixOf [46, 46] (a :: b :: t) = false := by
          simp only [List.isPrefixOf, Bool.and_eq_false_iff, beq_eq_false_iff_ne]
          by_cases ha : a = 46
          · exact .inr (.inl (fun e => h ⟨ha, e.symm⟩))
          · exact .inl (fun e => ha e.symm)
        have hq : (a == 46 && b == 46) = false := by
          rw [Bool.and_eq_false_iff, beq_eq_false_iff_ne, beq_eq_false_iff_ne]
          by_cases ha : a = 46
          · exact .inr (fun e => h ⟨ha, e⟩)
          · exact .inl ha
        rw [hp, hq]
        simp only [Bool.false_eq_true, if_false, false_or]
        by_cases he : x = -1
        · subst he; simp
        · rw [if_neg (by simpa using he)]
          omega
theorem index_dots (l : List UInt8) : decide (0 ≤ Lib.index l [46, 46]) = dd l := by
  rw [Bool.eq_iff_iff, decide_eq_true_eq]
  exact index_dots_iff l
theorem dd_snoc (m : List UInt8) (x : UInt8) : dd (m ++ [x]) = (dd m || (m.getLast? == some 46 && x == 46)) := by
  induction m with
  | nil => rfl
  | cons a m ih =>
    cases m with
    | nil => simp [dd]
    | cons b t =>
      simp only [List.cons_append, dd] at ih ⊢
      rw [ih, Bool.or_assoc]
      simp
theorem dd_take (l : List UInt8) (k : Nat) (h : k + 1 < l.length) : dd (l.take (k + 2)) = (dd (l.take (k + 1)) || (l[k] == 46 && l[k + 1] == 46)) := by
  rw [List.take_succ_eq_append_getElem h, dd_snoc]
  congr 2
  rw [List.take_succ_eq_append_getElem (by omega), List.getLast?_append]
  simp
theorem dd_one (l : List UInt8) (h : 0 < l.length) : dd (l.take 1) = false := by
  cases l with
  | nil => simp at h
  | cons b l => rfl
theorem dd_mono (l : List UInt8) (k : Nat) (h : dd (l.take k) = true) : dd l = true := by
  induction l generalizing k with
  | nil => simp [dd] at h
  | cons a l ih =>
    cases k with
    | zero => simp [dd] at h
    | succ k =>
      cases l with
      | nil => simp [dd] at h
      | cons b t =>
        cases k with
        | zero => simp [dd] at h
        | succ k =>
          simp only [List.take_succ_cons, dd, Bool.or_eq_true] at h ⊢
          rcases h with h | h
          · exact .inl h
          · exact .inr (ih (k + 1) h)
theorem hostB_eq (l : List UInt8) (h : 0 < l.length) :
    hostB l = (decide (l.length ≤ 100) && allB hostByte l && !(l[0] == 46) && !(l[l.length - 1] == 46) && !dd l) := by
  have e1 : Lib.contains ([46] ++ l ++ [46]) [46, 46] = (l[0] == 46 || (dd l || l[l.length - 1] == 46)) := by
    have hl : l.getLast? = some l[l.length - 1] := by rw [List.getLast?_eq_getElem?, List.getElem?_eq_getElem]
    show decide (0 ≤ Lib.index _ _) = _
    rw [index_dots]
    cases l with
    | nil => simp at h
    | cons b r =>
      simp only [List.cons_append, List.nil_append, dd]
      rw [show b :: (r ++ [46]) = (b :: r) ++ [46] from rfl, dd_snoc, hl]
      simp
  unfold hostB
  rw [e1]
  have e2 : l.isEmpty = false := by cases l with | nil => simp at h | cons b r => rfl
  rw [e2]
  cases l[0] == 46 <;> cases dd l <;> cases l[l.length - 1] == 46 <;> simp

/-- A blank. -/
def isBl (b : UInt8) : Bool := [9, 10, 12, 13, 32].contains b
theorem trimL_eq (l : List UInt8) : trimL l = ((l.reverse.dropWhile isBl).reverse).dropWhile isBl := rfl
theorem dropWhile_all (p : UInt8 → Bool) (a l : List UInt8) (h : ∀ b ∈ a, p b = true) : (a ++ l).dropWhile p = l.dropWhile p := by
  induction a with
  | nil => rfl
  | cons x a ih =>
    rw [List.cons_append, List.dropWhile_cons, if_pos (h x (by simp))]
    exact ih (fun b hb => h b (by simp [hb]))
theorem dropWhile_nil_of (p : UInt8 → Bool) (a : List UInt8) (h : ∀ b ∈ a, p b = true) : a.dropWhile p = [] := by
  have := dropWhile_all p a [] h
  simpa using this
theorem dropWhile_split (p : UInt8 → Bool) (l m : List UInt8) : (l ++ m).dropWhile p = if l.dropWhile p = [] then m.dropWhile p else l.dropWhile p ++ m := by
  induction l with
  | nil => simp
  | cons x l ih =>
    rw [List.cons_append, List.dropWhile_cons, List.dropWhile_cons]
    split
    · exact ih
    · simp
theorem trimL_behind (l b : List UInt8) (h : ∀ x ∈ b, isBl x = true) : trimL (l ++ b) = trimL l := by
  rw [trimL_eq, trimL_eq, List.reverse_append, dropWhile_all isBl b.reverse _ (fun x hx => h x (List.mem_reverse.1 hx))]
theorem trimL_ahead (a l : List UInt8) (h : ∀ x ∈ a, isBl x = true) : trimL (a ++ l) = trimL l := by
  rw [trimL_eq, trimL_eq, List.reverse_append, dropWhile_split]
  have ha : ∀ x ∈ a.reverse, isBl x = true := fun x hx => h x (List.mem_reverse.1 hx)
  by_cases e : l.reverse.dropWhile isBl = []
  · rw [if_pos e, e, dropWhile_nil_of isBl a.reverse ha]
  · rw [if_neg e, List.reverse_append, List.reverse_reverse, dropWhile_all isBl a _ h]
theorem dropWhile_head (p : UInt8 → Bool) (l : List UInt8) (b : UInt8) (r : List UInt8) (h : l.dropWhile p = b :: r) : p b = false := by
  induction l with
  | nil => simp at h
  | cons x l ih =>
    rw [List.dropWhile_cons] at h
    split at h
    · exact ih h
    · rename_i hx
      cases h
      simpa using hx
theorem dropWhile_id (p : UInt8 → Bool) (b : UInt8) (r : List UInt8) (h : p b = false) : (b :: r).dropWhile p = b :: r := by
  rw [List.dropWhile_cons, h]
  rfl
/-- A text whose first and last byte are no blanks is trimmed. -/
theorem trimL_id (l : List UInt8) (h1 : ∀ b r, l = b :: r → isBl b = false) (h2 : ∀ b r, l = r ++ [b] → isBl b = false) : trimL l = l := by
  rw [trimL_eq]
  have e : l.reverse.dropWhile isBl = l.reverse := by
    cases hr : l.reverse with
    | nil => rfl
    | cons b r =>
      refine dropWhile_id isBl b r (h2 b r.reverse ?_)
      have := congrArg List.reverse hr
      simpa using this
  rw [e, List.reverse_reverse]
  cases hl : l with
  | nil => rfl
  | cons b r => exact dropWhile_id isBl b r (h1 b r hl)
theorem dropWhile_length_eq (p : UInt8 → Bool) (l : List UInt8) (h : (l.dropWhile p).length = l.length) : l.dropWhile p = l := by
  cases l with
  | nil => rfl
  | cons x l =>
    rw [List.dropWhile_cons] at h ⊢
    split at h
    · have := dropWhile_length p l
      simp at h
      omega
    · rename_i hx
      rw [if_neg hx]
/-- What is trimmed has no blank at its ends. -/
theorem trimL_ends (l : List UInt8) (h : trimL l = l) : (∀ b r, l = b :: r → isBl b = false) ∧ (∀ b r, l = r ++ [b] → isBl b = false) := by
  rw [trimL_eq] at h
  have l1 := dropWhile_length isBl l.reverse
  have l2 := dropWhile_length isBl (l.reverse.dropWhile isBl).reverse
  have l3 := congrArg List.length h
  simp only [List.length_reverse] at l1 l2 l3
  have e1 : l.reverse.dropWhile isBl = l.reverse := dropWhile_length_eq isBl _ (by rw [List.length_reverse]; omega)
  rw [e1, List.reverse_reverse] at h
  refine ⟨fun b r e => ?_, fun b r e => ?_⟩
  · rw [e] at h
    exact dropWhile_head isBl _ b r h
  · rw [e, List.reverse_append] at e1
    exact dropWhile_head isBl _ b r.reverse e1
theorem trimL_twice (l : List UInt8) : trimL (trimL l) = trimL l := by
  refine trimL_id _ (fun b r e => ?_) (fun b r e => ?_)
  · rw [trimL_eq] at e
    exact dropWhile_head isBl _ b r e
  · rw [trimL_eq] at e
    have hx : ∀ (m : List UInt8), (∀ b r, m = r ++ [b] → isBl b = false) → ∀ b r, m.dropWhile isBl = r ++ [b] → isBl b = false := by
      intro m
      induction m with
      | nil => intro _ b r e; simp at e
      | cons x m ih =>
        intro hm b r e
        rw [List.dropWhile_cons] at e
        split at e
        · exact ih (fun b r e => hm b (x :: r) (by rw [e]; rfl)) b r e
        · exact hm b r e
    refine hx _ (fun b r e => ?_) b r e
    have e2 := congrArg List.reverse e
    rw [List.reverse_reverse, List.reverse_append] at e2
    exact dropWhile_head isBl _ b r.reverse e2
theorem frontL_mid (s m : List UInt8) (c : UInt8) : frontL (s ++ c :: m) [c] = frontL s [c] := by
  unfold frontL
  induction s with
  | nil => simp
  | cons x s ih =>
    rw [List.cons_append, List.takeWhile_cons, List.takeWhile_cons, ih]
/-- What stands behind a # plays no part. -/
theorem front_hash (s m : List UInt8) (hs : trimL s = s) (hn : s ≠ []) : frontL (trimL (s ++ 35 :: m)) [35] = frontL (trimL s) [35] := by
  have e : trimL (s ++ 35 :: m) = s ++ 35 :: (m.reverse.dropWhile isBl).reverse := by
    rw [trimL_eq, List.reverse_append, List.reverse_cons, List.append_assoc, dropWhile_split]
    have h35 : ([35] ++ s.reverse).dropWhile isBl = [35] ++ s.reverse := dropWhile_id isBl 35 _ (by decide)
    obtain ⟨b, r, hb⟩ : ∃ b r, s = b :: r := by
      cases s with
      | nil => exact absurd rfl hn
      | cons b r => exact ⟨b, r, rfl⟩
    have h0 := (trimL_ends s hs).1 b r hb
    split
    · rename_i hm
      rw [h35, hm, List.reverse_append, List.reverse_reverse, hb]
      exact dropWhile_id isBl b _ h0
    · rw [List.reverse_append, List.reverse_append, List.reverse_reverse, List.append_assoc, hb]
      exact dropWhile_id isBl b _ h0
  rw [e, hs, frontL_mid]
theorem parse_of_front (s t : List UInt8) (h : frontL (trimL s) [35] = frontL (trimL t) [35]) : rawU s = rawU t ∧ parseB s = parseB t := by
  have h1 : rawU s = rawU t := by unfold rawU; rw [h]
  exact ⟨h1, by unfold parseB; rw [h, h1]⟩
theorem parseU_of_front (s t : List UInt8) (h : frontL (trimL s) [35] = frontL (trimL t) [35]) : parseU s = parseU t ∧ parseE s = parseE t := by
  obtain ⟨h1, h2⟩ := parse_of_front s t h
  exact ⟨by unfold parseU; rw [h1, h2], by unfold parseE; rw [h2]⟩
theorem parseU_trim (s t : List UInt8) (h : trimL s = trimL t) : parseU s = parseU t ∧ parseE s = parseE t :=
  parseU_of_front s t (by rw [h])
theorem loose_blanks (s : List UInt8) : parseU ([32, 9] ++ s ++ [10]) = parseU s ∧ parseE ([32, 9] ++ s ++ [10]) = parseE s :=
  parseU_trim _ _ (by rw [trimL_behind _ [10] (by decide), trimL_ahead [32, 9] s (by decide)])
theorem parseB_ne (s : List UInt8) (h : parseB s = true) : trimL s ≠ [] := by
  intro e
  unfold parseB at h
  rw [e] at h
  simp [frontL, restL] at h
theorem loose_hash (s m : List UInt8) (h : parseB s = true) (hs : trimL s = s) : parseU (s ++ 35 :: m) = parseU s ∧ parseE (s ++ 35 :: m) = parseE s :=
  parseU_of_front _ _ (front_hash s m hs (by have := parseB_ne s h; rwa [hs] at this))
theorem low_of (p : Int → Bool) (hp : ∀ c : Int, p c = true → ¬ (65 ≤ c ∧ c ≤ 90)) (l : List UInt8) (h : allB p l = true) : lowerL l = l := by
  induction l with
  | nil => rfl
  | cons b l ih =>
    simp only [allB, Bool.and_eq_true] at h
    have h1 := hp _ h.1
    have e : low b = b := by
      unfold low
      rw [if_neg (by omega)]
    show low b :: lowerL l = _
    rw [e, ih h.2]
theorem schByte_small (c : Int) (h : schByte c = true) : ¬ (65 ≤ c ∧ c ≤ 90) := by
  simp [schByte, isLetter, isDigit] at h
  omega
theorem hostByte_small (c : Int) (h : hostByte c = true) : ¬ (65 ≤ c ∧ c ≤ 90) := by
  simp [hostByte, isLetter, isDigit] at h
  omega
theorem schemeB_all (l : List UInt8) (h : schemeB l = true) : allB schByte l = true ∧ l ≠ [] ∧ l.length ≤ 20 := by
  unfold schemeB at h
  simp only [Bool.and_eq_true, decide_eq_true_eq] at h
  refine ⟨h.2, ?_, h.1.1.2⟩
  intro e
  subst e
  simp at h
theorem hostB_all (l : List UInt8) (h : hostB l = true) : allB hostByte l = true ∧ l ≠ [] ∧ l.length ≤ 100 := by
  unfold hostB at h
  simp only [Bool.and_eq_true, decide_eq_true_eq] at h
  refine ⟨h.1.2, ?_, h.1.1.2⟩
  intro e
  subst e
  simp at h
/-- What a right address is of, taken apart. -/
theorem checkB_parts (u : URL) (h : checkB u = true) : schemeB u.sch = true ∧ (u.opq = (defPort u.sch == 0)) ∧ (textL u).length ≤ 500 ∧
    (u.opq = true → u.host = [] ∧ u.query = [] ∧ u.port = 0 ∧ trimL u.path = u.path ∧ allB opqByte u.path = true) ∧
    (u.opq = false → hostB u.host = true ∧ 0 ≤ u.port ∧ u.port ≤ 65535 ∧ u.port ≠ defPort u.sch ∧ allB pathByte u.path = true ∧ u.path ≠ [] ∧ cleanL u.path = u.path ∧ (u.query = [] ∨ ∃ q, u.query = 63 :: q ∧ allB qryByte q = true)) := by
  unfold checkB at h
  simp only [Bool.and_eq_true, decide_eq_true_eq] at h
  obtain ⟨⟨⟨h1, h2⟩, h3⟩, h4⟩ := h
  refine ⟨h1, by simpa using h2, h4, fun ho => ?_, fun ho => ?_⟩
  · rw [if_pos ho] at h3
    simp only [Bool.and_eq_true, beq_iff_eq] at h3
    exact ⟨h3.1.1.1.1, h3.1.1.1.2, h3.1.1.2, h3.1.2, h3.2⟩
  · rw [if_neg (by rw [ho]; decide)] at h3
    simp only [Bool.and_eq_true, beq_iff_eq, decide_eq_true_eq, bne_iff_ne, Bool.or_eq_true] at h3
    obtain ⟨⟨⟨⟨⟨⟨⟨a1, a2⟩, a3⟩, a4⟩, a5⟩, a6⟩, a7⟩, a8⟩ := h3
    refine ⟨a1, a2, a3, a4, a5, a6, a7, ?_⟩
    rcases a8 with a8 | ⟨a8, a9⟩
    · exact .inl a8
    · right
      cases hq : u.query with
      | nil => rw [hq] at a8; simp at a8
      | cons x q =>
        rw [hq] at a8 a9
        refine ⟨q, ?_, a9⟩
        have : x = 63 := by
          apply UInt8.toNat.inj
          show x.toNat = 63
          simp only [List.headD_cons] at a8
          omega
        rw [this]
theorem checkB_small (u : URL) (h : checkB u = true) : lowerL u.sch = u.sch ∧ lowerL u.host = u.host := by
  obtain ⟨h1, h2, h3, h4, h5⟩ := checkB_parts u h
  refine ⟨low_of schByte schByte_small _ (schemeB_all _ h1).1, ?_⟩
  cases ho : u.opq
  · exact low_of hostByte hostByte_small _ (hostB_all _ (h5 ho).1).1
  · rw [(h4 ho).1]; rfl
theorem parseU_right (s : List UInt8) (h : parseB s = true) : checkB (parseU s) = true := by
  unfold parseU
  rw [if_pos h]
  unfold parseB at h
  rw [Bool.and_eq_true] at h
  exact h.2
theorem zeroU_wrong : checkB zeroU = false := by decide +kernel
end Go.Proofs.YtbeaheicjopooaaGreatDoor
