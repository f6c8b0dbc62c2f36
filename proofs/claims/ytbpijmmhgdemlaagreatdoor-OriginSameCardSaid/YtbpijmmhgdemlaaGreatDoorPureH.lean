/- Plain functions: origins; no condition. -/
import Derived.Test.YtbpijmmhgdemlaaGreatDoorPureG
namespace Go.Proofs.YtbpijmmhgdemlaaGreatDoor
structure Org where
  opq : Bool
  sch : List UInt8
  host : List UInt8
  port : Int
deriving DecidableEq
/-- An address' port, or its scheme's own. -/
def ownPort (u : URL) : Int := if u.port = 0 then defPort u.sch else u.port
def noOrg : Org := ⟨true, [], [], 0⟩
def orgB (u : URL) : Bool := checkB u && !u.opq
def orgOf (u : URL) : Org := if orgB u then ⟨false, u.sch, u.host, ownPort u⟩ else noOrg
def orgEq (a b : Org) : Bool := a.opq == b.opq && a.sch == b.sch && a.host == b.host && a.port == b.port
def orgSame (a b : Org) : Bool := orgEq a b && !a.opq
def orgText (o : Org) : List UInt8 := if o.opq then [110, 117, 108, 108] else o.sch ++ [58, 47, 47] ++ o.host ++ (if o.port = defPort o.sch then [] else [58] ++ Lib.itoa o.port)
def isTls (s : List UInt8) : Bool := s == [104, 116, 116, 112, 115] || s == [119, 115, 115]
def secureB (u : URL) : Bool := checkB u && isTls u.sch
theorem orgEq_iff (a b : Org) : orgEq a b = true ↔ a = b := by
  cases a
  cases b
  simp [orgEq, and_assoc]
theorem orgEq_self (a : Org) : orgEq a a = true := (orgEq_iff a a).2 rfl
/-- An address with another path that may be, and no query. -/
def rooted (u : URL) : URL := { u with path := [47], query := [] }
theorem rooted_right (u : URL) (h : checkB u = true) (ho : u.opq = false) : checkB (rooted u) = true := by
  obtain ⟨r, hr⟩ := path_head u h ho
  have ht : (textL (rooted u)).length ≤ (textL u).length := by
    rw [textL_front u ho, textL_front (rooted u) ho]
    show (frontT u.sch u.host u.port ++ ([47] ++ [])).length ≤ _
    rw [hr]
    simp
  unfold checkB at h ⊢
  simp only [Bool.and_eq_true, decide_eq_true_eq] at h ⊢
  obtain ⟨⟨⟨h1, h2⟩, h3⟩, h4⟩ := h
  rw [if_neg (by rw [ho]; decide)] at h3
  rw [if_neg (by show ¬ u.opq = true; rw [ho]; decide)]
  simp only [Bool.and_eq_true] at h3 ⊢
  obtain ⟨⟨⟨⟨⟨⟨⟨a1, a2⟩, a3⟩, a4⟩, a5⟩, a6⟩, a7⟩, a8⟩ := h3
  exact ⟨⟨⟨h1, h2⟩, ⟨⟨⟨⟨⟨⟨⟨a1, a2⟩, a3⟩, a4⟩, show allB pathByte [47] = true by decide⟩, show (([47] : List UInt8) != []) = true by decide⟩, show (cleanL [47] == [47]) = true by decide +kernel⟩, show (([] : List UInt8) == [] || _) = true by rfl⟩⟩, Nat.le_trans ht h4⟩
theorem defPort_tls (s : List UInt8) (h : isTls s = true) : defPort s ≠ 0 := by
  unfold isTls at h
  simp only [Bool.or_eq_true, beq_iff_eq] at h
  rcases h with rfl | rfl <;> decide
/-- What is secure is of an origin that says so. -/
theorem secure_org (u : URL) : secureB u = (!(orgOf u).opq && isTls (orgOf u).sch) := by
  unfold secureB orgOf orgB
  cases hc : checkB u
  · rfl
  · obtain ⟨h1, h2, h3, h4, h5⟩ := checkB_parts u hc
    cases ho : u.opq
    · rfl
    · simp only [Bool.true_and, Bool.not_true, Bool.false_eq_true, if_false]
      show isTls u.sch = (!noOrg.opq && _)
      cases ht : isTls u.sch
      · rfl
      · exfalso
        rw [ho] at h2
        exact defPort_tls _ ht (by simpa using h2.symm)
theorem ownPort_bounds (u : URL) (h : checkB u = true) (ho : u.opq = false) : 0 ≤ ownPort u ∧ ownPort u ≤ 65535 := by
  obtain ⟨h1, h2, h3, h4, h5⟩ := checkB_parts u h
  obtain ⟨a1, a2, a3, _⟩ := h5 ho
  have := defPort_bounds u.sch
  unfold ownPort
  split <;> omega
theorem ownPort_inj (a b : URL) (ha : checkB a = true) (hb : checkB b = true) (oa : a.opq = false) (ob : b.opq = false) (hs : a.sch = b.sch) : (ownPort a = ownPort b) ↔ a.port = b.port := by
  obtain ⟨_, _, _, _, h5⟩ := checkB_parts a ha
  obtain ⟨_, _, _, _, k5⟩ := checkB_parts b hb
  obtain ⟨_, _, _, a4, _⟩ := h5 oa
  obtain ⟨_, _, _, b4, _⟩ := k5 ob
  unfold ownPort
  rw [hs] at a4 ⊢
  by_cases e1 : a.port = 0 <;> by_cases e2 : b.port = 0
  · simp [e1, e2]
  · rw [if_pos e1, if_neg e2, e1]; constructor <;> intro h <;> omega
  · rw [if_neg e1, if_pos e2, e2]; constructor <;> intro h <;> omega
  · rw [if_neg e1, if_neg e2]
/-- Two right addresses have one origin just if scheme, host and port are the same. -/
theorem org_apart (a b : URL) (ha : checkB a = true) (hb : checkB b = true) (oa : a.opq = false) (ob : b.opq = false) :
    orgSame (orgOf a) (orgOf b) = (a.sch == b.sch && a.host == b.host && a.port == b.port) := by
  unfold orgSame orgOf orgB
  rw [ha, hb, oa, ob]
  simp only [Bool.not_false, Bool.and_true, if_true]
  rw [Bool.eq_iff_iff, orgEq_iff, Org.mk.injEq]
  simp only [Bool.and_eq_true, beq_iff_eq, true_and]
  constructor
  · rintro ⟨h1, h2, h3⟩
    exact ⟨⟨h1, h2⟩, (ownPort_inj a b ha hb oa ob h1).1 h3⟩
  · rintro ⟨⟨h1, h2⟩, h3⟩
    exact ⟨h1, h2, (ownPort_inj a b ha hb oa ob h1).2 h3⟩
theorem org_rooted (a : URL) (ha : checkB a = true) (oa : a.opq = false) : orgSame (orgOf a) (orgOf (rooted a)) = true := by
  rw [org_apart a (rooted a) ha (rooted_right a ha oa) oa oa]
  simp [rooted]
theorem secure_rooted (u : URL) (h : checkB u = true) (ho : u.opq = false) : secureB (rooted u) = secureB u := by
  unfold secureB
  rw [h, rooted_right u h ho]
  rfl
theorem itoa_inj (p q : Int) (hp : 0 ≤ p) (hq : 0 ≤ q) (h : Lib.itoa p = Lib.itoa q) : p = q := by
  rw [itoa_nat p hp, itoa_nat q hq] at h
  have h1 := (dec_digits p.toNat).1
  rw [h, (dec_digits q.toNat).1] at h1
  omega
/-- Two origins of right addresses have one text just if they are the same. -/
theorem org_texts (a b : URL) : (orgText (orgOf a) == orgText (orgOf b)) = orgEq (orgOf a) (orgOf b) := by
  have split : ∀ u : URL, orgOf u = noOrg ∨ (checkB u = true ∧ u.opq = false ∧ orgOf u = ⟨false, u.sch, u.host, ownPort u⟩) := by
    intro u
    unfold orgOf
    cases h : orgB u
    · exact .inl rfl
    · right
      unfold orgB at h
      rw [Bool.and_eq_true] at h
      exact ⟨h.1, by simpa using h.2, rfl⟩
  have mid : ∀ u : URL, checkB u = true → u.opq = false → orgOf u = ⟨false, u.sch, u.host, ownPort u⟩ → orgText (orgOf u) = u.sch ++ 58 :: 47 :: 47 :: (u.host ++ (if ownPort u = defPort u.sch then [] else 58 :: Lib.itoa (ownPort u))) := by
    intro u _ _ h
    rw [h]
    simp [orgText]
  have hnull : ∀ (x y : List UInt8), ([110, 117, 108, 108] : List UInt8) ≠ x ++ 58 :: y := by
    intro x y e
    have : (58 : UInt8) ∈ ([110, 117, 108, 108] : List UInt8) := by rw [e]; simp
    exact absurd this (by decide)
  rw [Bool.eq_iff_iff, beq_iff_eq, orgEq_iff]
  refine ⟨fun h => ?_, fun h => by rw [h]⟩
  rcases split a with ea | ⟨ca, oa, ea⟩ <;> rcases split b with eb | ⟨cb, ob, eb⟩
  · rw [ea, eb]
  · rw [mid b cb ob eb, ea] at h
    exact absurd h (hnull _ _)
  · rw [mid a ca oa ea, eb] at h
    exact absurd h.symm (hnull _ _)
  · rw [mid a ca oa ea, mid b cb ob eb] at h
    obtain ⟨a1, a2, a3, a4, a5⟩ := checkB_parts a ca
    obtain ⟨b1, b2, b3, b4, b5⟩ := checkB_parts b cb
    have na := allB_not schByte a.sch 58 (by decide) (schemeB_all _ a1).1
    have nb := allB_not schByte b.sch 58 (by decide) (schemeB_all _ b1).1
    have ma := allB_not hostByte a.host 58 (by decide) (hostB_all _ (a5 oa).1).1
    have mb := allB_not hostByte b.host 58 (by decide) (hostB_all _ (b5 ob).1).1
    have hs : a.sch = b.sch := by
      have h1 := (frontL_one a.sch (47 :: 47 :: (a.host ++ (if ownPort a = defPort a.sch then [] else 58 :: Lib.itoa (ownPort a)))) 58 na).1
      rw [h, (frontL_one b.sch _ 58 nb).1] at h1
      exact h1.symm
    rw [hs] at h
    have h2 := List.append_cancel_left h
    simp only [List.cons.injEq, true_and] at h2
    have tail : ∀ (x : List UInt8) (c : Prop) [Decidable c] (y : List UInt8), (58 : UInt8) ∉ x → frontL (x ++ (if c then [] else 58 :: y)) [58] = x ∧ restL (x ++ (if c then [] else 58 :: y)) [58] = if c then [] else 58 :: y := by
      intro x c _ y hx
      split
      · rw [List.append_nil]; exact frontL_none _ _ (not_one hx)
      · exact frontL_one x y 58 hx
    have ta := tail a.host (ownPort a = defPort b.sch) (Lib.itoa (ownPort a)) ma
    have tb := tail b.host (ownPort b = defPort b.sch) (Lib.itoa (ownPort b)) mb
    have hh : a.host = b.host := by
      rw [← ta.1, ← tb.1, h2]
    have hp : ownPort a = ownPort b := by
      have e : (if ownPort a = defPort b.sch then [] else 58 :: Lib.itoa (ownPort a)) = (if ownPort b = defPort b.sch then [] else 58 :: Lib.itoa (ownPort b)) := by
        rw [← ta.2, ← tb.2, h2]
      by_cases p1 : ownPort a = defPort b.sch <;> by_cases p2 : ownPort b = defPort b.sch
      · rw [p1, p2]
      · rw [if_pos p1, if_neg p2] at e; cases e
      · rw [if_neg p1, if_pos p2] at e; cases e
      · rw [if_neg p1, if_neg p2] at e
        exact itoa_inj _ _ (ownPort_bounds a ca oa).1 (ownPort_bounds b cb ob).1 (List.cons.inj e).2
    rw [ea, eb, hs, hh, hp]
end Go.Proofs.YtbpijmmhgdemlaaGreatDoor
