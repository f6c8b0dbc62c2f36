/- Plain functions: what a source lets be; no condition. -/
import Derived.Test.YtbpijmmhgdemlaaGreatDoorPureH
namespace Go.Proofs.YtbpijmmhgdemlaaGreatDoor
/-- A source. -/
structure Src where
  kind : Int
  text : List UInt8
  sch : List UInt8
  host : List UInt8
  wild : Bool
  port : Int
  path : List UInt8
deriving DecidableEq
def schM (told l : List UInt8) : Bool := told == l || ((told == [104, 116, 116, 112] || told == [119, 115]) && l == told ++ [115])
/-- Ends a text with another one, with something ahead of it? -/
def endsB (l t : List UInt8) : Bool := decide (t.length < l.length) && l.drop (l.length - t.length) == t
def hostM (wild : Bool) (told host : List UInt8) : Bool := if wild then lowerL told == [] || endsB (lowerL host) (46 :: lowerL told) else lowerL told == lowerL host
def portM (p : Int) (u : URL) : Bool := if p = -1 then true else if p = 0 then ownPort u == defPort u.sch else if p = 80 then ownPort u == 80 || ownPort u == 443 else ownPort u == p
def pathM (told l : List UInt8) (moved : Bool) : Bool := moved || told == [] || told == l || (told.getLast? == some 47 && Lib.hasPrefix l told)
def toldS (s : Src) (own : URL) : List UInt8 := if s.sch = [] ∧ s.kind = 12 then own.sch else s.sch
def plainM (u own : URL) : Bool := !u.opq && !own.opq && u.port == 0 && own.port == 0 && u.host == own.host
def urlM (s : Src) (u own : URL) (moved : Bool) : Bool :=
  if s.kind = 11 then checkB u && schM (toldS s own) u.sch
  else if s.kind = 12 then checkB u && schM (toldS s own) u.sch && !u.opq && hostM s.wild s.host u.host && portM s.port u && pathM s.path u.path moved
  else if s.kind = 2 then orgSame (orgOf u) (orgOf own) || (checkB u && plainM u own && (checkB own && schM own.sch u.sch))
  else false
theorem pathM_moved (told l : List UInt8) : pathM told l true = true := by unfold pathM; rfl
theorem pathM_nil (l : List UInt8) (m : Bool) : pathM [] l m = true := by unfold pathM; simp
/-- What is let be without being moved is let be moved; without a path being moved plays no part. -/
theorem match_moved (s : Src) (u own : URL) : ((!urlM s u own false || urlM s u own true) && (s.path != [] || urlM s u own false == urlM s u own true)) = true := by
  unfold urlM
  by_cases h1 : s.kind = 11
  · simp only [if_pos h1]
    cases (checkB u && schM (toldS s own) u.sch) <;> simp
  · by_cases h2 : s.kind = 12
    · simp only [if_neg h1, if_pos h2, pathM_moved, Bool.and_true]
      generalize (checkB u && schM (toldS s own) u.sch && !u.opq && hostM s.wild s.host u.host && portM s.port u) = x
      by_cases hp : s.path = []
      · simp [hp, pathM_nil]
      · cases x <;> simp [hp]
    · simp only [if_neg h1, if_neg h2]
      generalize (if s.kind = 2 then orgSame (orgOf u) (orgOf own) || (checkB u && plainM u own && (checkB own && schM own.sch u.sch)) else false) = x
      cases x <;> simp
theorem schM_self (l : List UInt8) : schM l l = true := by unfold schM; simp
/-- The widest source. -/
theorem match_wide (u own : URL) (m : Bool) (h : checkB u = true) :
    urlM ⟨12, [], [], [], true, -1, []⟩ u own m = (!u.opq && schM own.sch u.sch) ∧ urlM ⟨11, [], u.sch, [], false, 0, []⟩ u own m = true := by
  refine ⟨?_, ?_⟩
  · unfold urlM toldS
    simp [h, hostM, lowerL, portM, pathM_nil, Bool.and_comm]
  · unfold urlM toldS
    simp [h, schM_self]
/-- What is of the page's own origin is let be by the word for it; what is of another host never. -/
theorem match_self (u own : URL) (m : Bool) : ((!orgSame (orgOf u) (orgOf own) || urlM ⟨2, [], [], [], false, 0, []⟩ u own m) && (!urlM ⟨2, [], [], [], false, 0, []⟩ u own m || (u.host == own.host && !u.opq && checkB u))) = true := by
  have e : urlM ⟨2, [], [], [], false, 0, []⟩ u own m = (orgSame (orgOf u) (orgOf own) || (checkB u && plainM u own && (checkB own && schM own.sch u.sch))) := by
    unfold urlM
    simp
  rw [e]
  have hs : orgSame (orgOf u) (orgOf own) = true → (u.host == own.host && !u.opq && checkB u) = true := by
    intro h
    have hu : orgB u = true := by
      cases hb : orgB u
      · unfold orgSame orgOf at h
        rw [hb] at h
        simp [noOrg] at h
      · rfl
    have ho : orgB own = true := by
      cases hb : orgB own
      · have : orgOf own = noOrg := by unfold orgOf; rw [hb]; rfl
        unfold orgSame at h
        rw [this, Bool.and_eq_true, orgEq_iff] at h
        rw [h.1] at h
        simp [noOrg] at h
      · rfl
    unfold orgB at hu ho
    rw [Bool.and_eq_true] at hu ho
    have h2 := org_apart u own hu.1 ho.1 (by simpa using hu.2) (by simpa using ho.2)
    rw [h] at h2
    have h3 := h2.symm
    simp only [Bool.and_eq_true] at h3
    rw [h3.1.2, hu.1, hu.2]
    rfl
  cases hsame : orgSame (orgOf u) (orgOf own)
  · simp only [Bool.false_or, Bool.not_false, Bool.true_or, Bool.true_and]
    cases hc : checkB u
    · simp
    · cases hp : plainM u own
      · simp
      · unfold plainM at hp
        simp only [Bool.and_eq_true] at hp
        rw [hp.2, hp.1.1.1.1]
        simp
  · rw [hs hsame]
    simp
/-- A source without a scheme lets just that be which it lets be with the page's. -/
theorem match_scheme (s : Src) (u own : URL) (m : Bool) (hk : s.kind = 12) (hs : s.sch = []) (ho : own.sch ≠ []) : urlM s u own m = urlM { s with sch := own.sch } u own m := by
  unfold urlM toldS
  simp [hk, hs, ho]
theorem lowerL_append (a b : List UInt8) : lowerL (a ++ b) = lowerL a ++ lowerL b := by simp [lowerL]
/-- A wild source. -/
theorem match_wilder (host ahead : List UInt8) (h : host ≠ []) :
    hostM true host (ahead ++ [46] ++ host) = (ahead != []) ∧ hostM true host host = false ∧ hostM false host host = true ∧ hostM false host (ahead ++ [46] ++ host) = false := by
  have hl : (lowerL host == []) = false := by
    rw [beq_eq_false_iff_ne]
    intro e
    have := congrArg List.length e
    rw [lowerL_length] at this
    exact h (List.eq_nil_of_length_eq_zero this)
  refine ⟨?_, ?_, ?_, ?_⟩
  · unfold hostM
    rw [if_pos rfl, hl, Bool.false_or, lowerL_append, lowerL_append]
    have e : lowerL [46] ++ lowerL host = 46 :: lowerL host := rfl
    rw [List.append_assoc, e]
    unfold endsB
    rw [List.length_append, lowerL_length, Nat.add_sub_cancel, Nat.add_comm]
    have : (lowerL ahead ++ 46 :: lowerL host).drop ahead.length = 46 :: lowerL host := by
      have := List.drop_left (l₁ := lowerL ahead) (l₂ := 46 :: lowerL host)
      rwa [lowerL_length] at this
    rw [this]
    cases ahead with
    | nil => simp
    | cons x xs => simp
  · unfold hostM
    rw [if_pos rfl, hl, Bool.false_or]
    unfold endsB
    rw [decide_eq_false (by simp)]
    rfl
  · unfold hostM
    simp
  · unfold hostM
    simp only [Bool.false_eq_true, if_false]
    rw [beq_eq_false_iff_ne]
    intro e
    have := congrArg List.length e
    rw [lowerL_length, lowerL_length] at this
    simp at this
    omega
end Go.Proofs.YtbpijmmhgdemlaaGreatDoor
