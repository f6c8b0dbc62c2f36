/- Plain functions on bytes and lists: what the texts of addresses come to; no condition. -/
import Derived.Lib.SlTrimSet
import Derived.Lib.Split
import Derived.Lib.Join
import Derived.Lib.ItoaNum
namespace Go.Proofs.YtbpijmmhgdemlaaGreatDoor

def isLetter (c : Int) : Bool := decide (97 ≤ c) && decide (c ≤ 122)
def isDigit (c : Int) : Bool := decide (48 ≤ c) && decide (c ≤ 57)
/-- All bytes of l satisfy p. -/
def allB (p : Int → Bool) : List UInt8 → Bool
  | [] => true
  | b :: l => p b.toNat && allB p l
theorem allB_append (p : Int → Bool) (l m : List UInt8) : allB p (l ++ m) = (allB p l && allB p m) := by
  induction l with
  | nil => simp [allB]
  | cons x l ih => simp [allB, ih, Bool.and_assoc]
theorem allB_snoc (p : Int → Bool) (l : List UInt8) (b : UInt8) : allB p (l ++ [b]) = (allB p l && p b.toNat) := by
  rw [allB_append]; simp [allB]
theorem allB_false (p : Int → Bool) (l : List UInt8) (k : Nat) (h : k < l.length) (hp : p (l[k]).toNat = false) : allB p l = false := by
  induction l generalizing k with
  | nil => simp at h
  | cons x l ih =>
    cases k with
    | zero => simp at hp; simp [allB, hp]
    | succ k => simp [allB, ih k (by simpa using h) (by simpa using hp)]
theorem allB_take (p : Int → Bool) (l : List UInt8) (k : Nat) (h : k < l.length) : allB p (l.take (k + 1)) = (allB p (l.take k) && p (l[k]).toNat) := by
  rw [List.take_succ_eq_append_getElem h, allB_snoc]
theorem allB_iff (p : Int → Bool) (l : List UInt8) : allB p l = true ↔ ∀ b ∈ l, p b.toNat = true := by
  induction l with
  | nil => simp [allB]
  | cons x l ih => simp [allB, ih]
theorem allB_congr {p q : Int → Bool} (l : List UInt8) (h : ∀ b ∈ l, p b.toNat = q b.toNat) : allB p l = allB q l := by
  induction l with
  | nil => rfl
  | cons x l ih =>
    simp only [allB]
    rw [h x (by simp), ih (fun b hb => h b (by simp [hb]))]

/-- A byte of a scheme. -/
def schByte (c : Int) : Bool := isLetter c || isDigit c || c == 43 || c == 45 || c == 46
/-- A byte of a host. -/
def hostByte (c : Int) : Bool := isLetter c || isDigit c || c == 45 || c == 46
/-- A byte of a path. -/
def pathByte (c : Int) : Bool := decide (32 < c) && decide (c < 127) && c != 63 && c != 35
/-- A byte of what stands behind an opaque scheme. -/
def opqByte (c : Int) : Bool := decide (32 ≤ c) && decide (c < 127) && c != 35
/-- A byte of a query. -/
def qryByte (c : Int) : Bool := pathByte c || c == 63
def schemeB (l : List UInt8) : Bool := !l.isEmpty && decide (l.length ≤ 20) && isLetter ((l.headD 0).toNat : Int) && allB schByte l
/-- A scheme's own port. -/
def defPort (l : List UInt8) : Int :=
  if l = [104, 116, 116, 112] ∨ l = [119, 115] then 80 else if l = [104, 116, 116, 112, 115] ∨ l = [119, 115, 115] then 443 else 0
def hostB (l : List UInt8) : Bool := !l.isEmpty && decide (l.length ≤ 100) && allB hostByte l && !Lib.contains ([46] ++ l ++ [46]) [46, 46]

/-- A text without the blanks at its ends. -/
def trimL (l : List UInt8) : List UInt8 := Lib.trimS l [9, 10, 12, 13, 32]
/-- A byte, a great letter its small one. -/
def low (b : UInt8) : UInt8 := if 65 ≤ b.toNat ∧ b.toNat ≤ 90 then b + 32 else b
def lowerL (l : List UInt8) : List UInt8 := l.map low
/-- A text whose first k letters are made small. -/
def mixL (l : List UInt8) (k : Nat) : List UInt8 := lowerL (l.take k) ++ l.drop k
theorem mixL_length (l : List UInt8) (k : Nat) : (mixL l k).length = l.length := by
  simp [mixL, lowerL]; omega
theorem mixL_at (l : List UInt8) (k : Nat) (h : k < l.length) : (mixL l k)[k]'(by rw [mixL_length]; exact h) = l[k] := by
  simp only [mixL, lowerL]
  rw [List.getElem_append_right (by simp; omega)]
  simp [Nat.min_eq_left (Nat.le_of_lt h)]
theorem mixL_succ (l : List UInt8) (k : Nat) (h : k < l.length) : mixL l (k + 1) = (mixL l k).set k (low l[k]) := by
  simp only [mixL, lowerL]
  have e : l.drop k = l[k] :: l.drop (k + 1) := List.drop_eq_getElem_cons h
  rw [List.take_succ_eq_append_getElem h, List.map_append, List.set_append_right _ _ (by simp; omega), e]
  simp [Nat.min_eq_left (Nat.le_of_lt h), -List.getElem_cons_drop]
theorem mixL_zero (l : List UInt8) : mixL l 0 = l := by simp [mixL, lowerL]
theorem mixL_all (l : List UInt8) : mixL l l.length = lowerL l := by simp [mixL, lowerL]
theorem mixL_same (l : List UInt8) (k : Nat) (h : k < l.length) (hl : low l[k] = l[k]) : mixL l (k + 1) = mixL l k := by
  rw [mixL_succ l k h, hl]
  have := mixL_at l k h
  apply List.ext_getElem
  · simp
  · intro i h1 h2
    rw [List.getElem_set]
    split
    · rename_i e; subst e; exact this.symm
    · rfl

/-- What is ahead of the first byte of a, and what stands from there on. -/
def frontL (l a : List UInt8) : List UInt8 := l.takeWhile (fun b => !a.contains b)
def restL (l a : List UInt8) : List UInt8 := l.dropWhile (fun b => !a.contains b)
/-- Where the first byte of a stands in l, or -1. -/
def anyAtL (l a : List UInt8) : Int := if restL l a = [] then -1 else ((frontL l a).length : Int)
theorem front_rest (l a : List UInt8) : frontL l a ++ restL l a = l := List.takeWhile_append_dropWhile
theorem span_at (p : UInt8 → Bool) (l : List UInt8) (k : Nat) (hk : k < l.length) (hall : ∀ j (h : j < l.length), j < k → p l[j] = true) (hf : p l[k] = false) :
    l.takeWhile p = l.take k ∧ l.dropWhile p = l.drop k := by
  induction l generalizing k with
  | nil => simp at hk
  | cons x l ih =>
    cases k with
    | zero => simp at hf; simp [hf]
    | succ k =>
      have h0 : p x = true := hall 0 (by simp) (by omega)
      have := ih k (by simpa using hk) (fun j h hj => hall (j + 1) (by simpa using h) (by omega)) (by simpa using hf)
      simp [h0, this.1, this.2]
theorem span_none (p : UInt8 → Bool) (l : List UInt8) (hall : ∀ j (h : j < l.length), p l[j] = true) : l.takeWhile p = l ∧ l.dropWhile p = [] := by
  induction l with
  | nil => simp
  | cons x l ih =>
    have h0 : p x = true := hall 0 (by simp)
    have := ih (fun j h => hall (j + 1) (by simpa using h))
    simp [h0, this.1, this.2]
theorem anyAtL_at (l a : List UInt8) (k : Nat) (hk : k < l.length) (hall : ∀ j (h : j < l.length), j < k → l[j] ∉ a) (hf : l[k] ∈ a) : anyAtL l a = k := by
  obtain ⟨h1, h2⟩ := span_at (fun b => !a.contains b) l k hk (fun j h hj => by simpa using hall j h hj) (by simpa using hf)
  unfold anyAtL frontL restL
  rw [h1, h2, if_neg (by simp; omega)]
  simp; omega
theorem anyAtL_none (l a : List UInt8) (hall : ∀ j (h : j < l.length), l[j] ∉ a) : anyAtL l a = -1 := by
  obtain ⟨_, h2⟩ := span_none (fun b => !a.contains b) l (fun j h => by simpa using hall j h)
  unfold anyAtL restL
  rw [h2, if_pos rfl]
theorem anyAtL_neg (l a : List UInt8) (h : anyAtL l a < 0) : frontL l a = l ∧ restL l a = [] := by
  unfold anyAtL at h
  split at h
  · rename_i e
    have := front_rest l a
    rw [e, List.append_nil] at this
    exact ⟨this, e⟩
  · omega
theorem anyAtL_pos (l a : List UInt8) (h : 0 ≤ anyAtL l a) : frontL l a = l.take (anyAtL l a).toNat ∧ restL l a = l.drop (anyAtL l a).toNat ∧ (anyAtL l a).toNat ≤ l.length := by
  have e := front_rest l a
  unfold anyAtL at h ⊢
  split at h
  · omega
  · rename_i hne
    rw [if_neg hne]
    simp only [Int.toNat_natCast]
    have hlen : (frontL l a).length ≤ l.length := by
      have := congrArg List.length e
      simp at this; omega
    have e1 : (frontL l a ++ restL l a).take (frontL l a).length = frontL l a := by simp
    have e2 : (frontL l a ++ restL l a).drop (frontL l a).length = restL l a := by simp
    rw [e] at e1 e2
    exact ⟨e1.symm, e2.symm, hlen⟩

structure URL where
  opq : Bool
  sch : List UInt8
  host : List UInt8
  port : Int
  path : List UInt8
  query : List UInt8
deriving DecidableEq
/-- An address' text. -/
def textL (u : URL) : List UInt8 :=
  if u.opq then u.sch ++ [58] ++ u.path else u.sch ++ [58, 47, 47] ++ u.host ++ (if u.port = 0 then [] else [58] ++ Lib.itoa u.port) ++ u.path ++ u.query
end Go.Proofs.YtbpijmmhgdemlaaGreatDoor
