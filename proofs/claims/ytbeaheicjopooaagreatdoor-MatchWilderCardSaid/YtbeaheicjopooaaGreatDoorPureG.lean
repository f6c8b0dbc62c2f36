/- Plain functions: an address' text is parsed as it; no condition. -/
import Derived.Test.YtbeaheicjopooaaGreatDoorPure
import Derived.Lib.ItoaNum
namespace Go.Proofs.YtbeaheicjopooaaGreatDoor
theorem allB_not (p : Int → Bool) (l : List UInt8) (k : UInt8) (hp : p k.toNat = false) (h : allB p l = true) : k ∉ l := fun hm => by
  have := (allB_iff p l).1 h k hm
  rw [hp] at this
  cases this
theorem allB_imp {p q : Int → Bool} (l : List UInt8) (hpq : ∀ c : Int, p c = true → q c = true) (h : allB p l = true) : allB q l = true :=
  (allB_iff q l).2 fun b hb => hpq _ ((allB_iff p l).1 h b hb)
theorem frontL_first (a r s : List UInt8) (c : UInt8) (ha : ∀ b ∈ a, b ∉ s) (hc : c ∈ s) : frontL (a ++ c :: r) s = a ∧ restL (a ++ c :: r) s = c :: r := by
  have h := span_at (fun b => !s.contains b) (a ++ c :: r) a.length (by simp) (fun j hj hja => by
    rw [List.getElem_append_left hja]
    simpa using ha _ (List.getElem_mem hja)) (by simpa using hc)
  unfold frontL restL
  rw [h.1, h.2]
  simp
theorem frontL_none (a s : List UInt8) (ha : ∀ b ∈ a, b ∉ s) : frontL a s = a ∧ restL a s = [] :=
  span_none (fun b => !s.contains b) a (fun j hj => by simpa using ha _ (List.getElem_mem hj))
theorem not_one {l : List UInt8} {c : UInt8} (h : c ∉ l) : ∀ b ∈ l, b ∉ [c] := fun b hb e => h (by rw [List.mem_singleton] at e; rwa [← e])
theorem frontL_one (a r : List UInt8) (c : UInt8) (ha : c ∉ a) : frontL (a ++ c :: r) [c] = a ∧ restL (a ++ c :: r) [c] = c :: r :=
  frontL_first a r [c] c (not_one ha) (by simp)

/-! ### digits -/
theorem dec_step {u : Nat} (h : ¬ u < 10) : Lib.decDigits u = Lib.decDigits (u / 10) ++ [UInt8.ofNat (48 + u % 10)] := by
  rw [Lib.decDigits, dif_neg h]
theorem dig_toNat (k : Nat) (h : k < 10) : (UInt8.ofNat (48 + k)).toNat = 48 + k := by
  rw [UInt8.toNat_ofNat_of_lt' (by show 48 + k < 256; omega)]
theorem digitsL_snoc (l : List UInt8) (b : UInt8) : digitsL (l ++ [b]) = digitsL l * 10 + (b.toNat - 48) := by
  unfold digitsL
  rw [List.foldl_append]
  rfl
theorem dec_digits (u : Nat) : digitsL (Lib.decDigits u) = u ∧ allB isDigit (Lib.decDigits u) = true := by
  induction u using Nat.strongRecOn with
  | _ u ih =>
    by_cases h : u < 10
    · rw [Lib.decDigits_one h]
      have hd := dig_toNat u h
      refine ⟨?_, ?_⟩
      · show 0 * 10 + ((UInt8.ofNat (48 + u)).toNat - 48) = u
        rw [hd]
        omega
      · simp only [allB, Bool.and_true]
        rw [hd]
        simp [isDigit]
        omega
    · have hu := ih (u / 10) (by omega)
      have hd := dig_toNat (u % 10) (by omega)
      rw [dec_step h, digitsL_snoc, hu.1, allB_snoc, hu.2, hd]
      refine ⟨by omega, ?_⟩
      simp [isDigit]
      omega
theorem nd_le (k : Nat) : ∀ u : Nat, u < 10 ^ (k + 1) → Lib.nDigits u ≤ k + 1 := by
  induction k with
  | zero => intro u h; rw [Lib.nDigits_small (by omega)]; omega
  | succ k ih =>
    intro u h
    by_cases hs : u < 10
    · rw [Lib.nDigits_small hs]; omega
    · rw [Lib.nDigits_big hs]
      have := ih (u / 10) (by rw [Nat.pow_succ] at h; omega)
      omega
theorem itoa_nat (n : Int) (h : 0 ≤ n) : Lib.itoa n = Lib.decDigits n.toNat := by
  unfold Lib.itoa
  rw [if_neg (by omega)]
/-- What stands of a port in a text. -/
def portT (n : Int) : List UInt8 := if n = 0 then [] else [58] ++ Lib.itoa n
theorem portT_port (n : Int) (h0 : 0 ≤ n) (h1 : n ≤ 65535) : portL (portT n) = n := by
  unfold portT
  by_cases h : n = 0
  · rw [if_pos h, h]; rfl
  · rw [if_neg h, itoa_nat n h0]
    obtain ⟨d1, d2⟩ := dec_digits n.toNat
    have hl := Lib.decDigits_length n.toNat
    have hp := Lib.nDigits_pos n.toNat
    have hn := nd_le 4 n.toNat (by omega)
    unfold portL
    rw [if_neg (by simp), if_neg (by simp [d2]; omega)]
    simp [d1]
    omega
theorem portT_bytes (n : Int) (h0 : 0 ≤ n) : ∀ b ∈ portT n, b = 58 ∨ isDigit (b.toNat : Int) = true := by
  intro b hb
  unfold portT at hb
  split at hb
  · cases hb
  · rcases List.mem_append.1 hb with hb | hb
    · left; simpa using hb
    · right
      rw [itoa_nat n h0] at hb
      exact (allB_iff isDigit _).1 (dec_digits n.toNat).2 b hb
/-- What stands ahead of the path. -/
def frontT (sch host : List UInt8) (n : Int) : List UInt8 := sch ++ 58 :: 47 :: 47 :: (host ++ portT n)
theorem textL_front (u : URL) (h : u.opq = false) : textL u = frontT u.sch u.host u.port ++ (u.path ++ u.query) := by
  unfold textL frontT portT
  rw [h]
  simp
theorem textL_back (u : URL) (h : u.opq = true) : textL u = u.sch ++ 58 :: u.path := by
  unfold textL
  rw [h]
  simp
theorem raw_ranked (s sch host X : List UInt8) (n : Int) (hs : schemeB sch = true) (hd : defPort sch ≠ 0) (hh : hostB host = true) (h0 : 0 ≤ n) (h1 : n ≤ 65535) (hn : n ≠ defPort sch)
    (hX : X = [] ∨ ∃ c r, X = c :: r ∧ c ∈ ([47, 63] : List UInt8)) (hf : frontL (trimL s) [35] = frontT sch host n ++ X) :
    rawU s = ⟨false, sch, host, n, cleanL (if frontL X [63] = [] then [47] else frontL X [63]), restL X [63]⟩ ∧ restL (frontL (trimL s) [35]) [58] ≠ [] := by
  obtain ⟨sa, _, _⟩ := schemeB_all sch hs
  obtain ⟨ha, _, _⟩ := hostB_all host hh
  have e1 : frontT sch host n ++ X = sch ++ 58 :: (47 :: 47 :: (host ++ portT n ++ X)) := by simp [frontT]
  obtain ⟨f1, f2⟩ := frontL_one sch (47 :: 47 :: (host ++ portT n ++ X)) 58 (allB_not schByte sch 58 (by decide) sa)
  have hlow := low_of schByte schByte_small sch sa
  have hlow2 := low_of hostByte hostByte_small host ha
  have hp0 : ∀ b ∈ portT n, b ∉ ([47, 63] : List UInt8) := fun b hb hm => by
    rcases portT_bytes n h0 b hb with rfl | hx
    · simp at hm
    · simp only [List.mem_cons, List.not_mem_nil, or_false] at hm
      rcases hm with rfl | rfl <;> simp [isDigit] at hx
  have hh0 : ∀ b ∈ host, b ∉ ([47, 63] : List UInt8) := fun b hb hm => by
    have hx := (allB_iff hostByte host).1 ha b hb
    simp only [List.mem_cons, List.not_mem_nil, or_false] at hm
    rcases hm with rfl | rfl <;> simp [hostByte, isLetter, isDigit] at hx
  have hhp : ∀ b ∈ host ++ portT n, b ∉ ([47, 63] : List UInt8) := fun b hb => by
    rcases List.mem_append.1 hb with hb | hb
    · exact hh0 b hb
    · exact hp0 b hb
  have g : frontL (host ++ portT n ++ X) [47, 63] = host ++ portT n ∧ restL (host ++ portT n ++ X) [47, 63] = X := by
    rcases hX with rfl | ⟨c, r, rfl, hc⟩
    · rw [List.append_nil]; exact frontL_none _ _ hhp
    · exact frontL_first _ r _ c hhp hc
  have k : frontL (host ++ portT n) [58] = host ∧ restL (host ++ portT n) [58] = portT n := by
    have h58 : (58 : UInt8) ∉ host := allB_not hostByte host 58 (by decide) ha
    unfold portT
    split
    · rw [List.append_nil]; exact frontL_none _ _ (not_one h58)
    · exact frontL_one host (Lib.itoa n) 58 h58
  refine ⟨?_, by rw [hf, e1, f2]; simp⟩
  unfold rawU
  rw [hf, e1, f1, f2, hlow, if_neg hd]
  show rankedL sch (47 :: 47 :: (host ++ portT n ++ X)) = _
  unfold rankedL
  rw [if_pos (by simp [Lib.hasPrefix])]
  show (⟨false, sch, lowerL (frontL (frontL (host ++ portT n ++ X) [47, 63]) [58]), _, _, _⟩ : URL) = _
  simp only [List.drop_succ_cons, List.drop_zero]
  rw [g.1, g.2, k.1, k.2, hlow2, portT_port n h0 h1, if_neg hn]
/-- A byte of a ranked address' text. -/
def textByte (c : Int) : Bool := decide (32 < c) && decide (c < 127) && c != 35
theorem textByte_of (c : Int) (h : schByte c = true ∨ hostByte c = true ∨ pathByte c = true ∨ qryByte c = true ∨ isDigit c = true ∨ c = 58 ∨ c = 47 ∨ c = 63) : textByte c = true := by
  unfold textByte
  simp [schByte, hostByte, pathByte, qryByte, isLetter, isDigit] at h ⊢
  omega
theorem textByte_bl (b : UInt8) (h : textByte (b.toNat : Int) = true) : isBl b = false := by
  cases hb : isBl b
  · rfl
  · unfold isBl at hb
    simp only [List.contains_cons, List.contains_nil, Bool.or_false, Bool.or_eq_true, beq_iff_eq] at hb
    rcases hb with rfl | rfl | rfl | rfl | rfl <;> simp [textByte] at h
theorem frontT_bytes (sch host : List UInt8) (n : Int) (hs : schemeB sch = true) (hh : hostB host = true) (h0 : 0 ≤ n) : ∀ b ∈ frontT sch host n, textByte (b.toNat : Int) = true := by
  intro b hb
  unfold frontT at hb
  simp only [List.mem_append, List.mem_cons] at hb
  rcases hb with hb | rfl | rfl | rfl | hb | hb
  · exact textByte_of _ (.inl ((allB_iff schByte sch).1 (schemeB_all sch hs).1 b hb))
  · decide
  · decide
  · decide
  · exact textByte_of _ (.inr (.inl ((allB_iff hostByte host).1 (hostB_all host hh).1 b hb)))
  · rcases portT_bytes n h0 b hb with rfl | hx
    · decide
    · exact textByte_of _ (.inr (.inr (.inr (.inr (.inl hx)))))
theorem frontT_ne (sch host : List UInt8) (n : Int) : frontT sch host n ≠ [] := by
  unfold frontT
  simp
theorem no_hash (l : List UInt8) (h : ∀ b ∈ l, textByte (b.toNat : Int) = true) : (35 : UInt8) ∉ l := fun hm => by
  have := h 35 hm
  simp [textByte] at this
theorem trimL_text (l : List UInt8) (h : ∀ b ∈ l, textByte (b.toNat : Int) = true) : trimL l = l :=
  trimL_id l (fun b r e => textByte_bl b (h b (by rw [e]; simp))) (fun b r e => textByte_bl b (h b (by rw [e]; simp)))
theorem ranked_bytes (u : URL) (h : checkB u = true) (ho : u.opq = false) : (∀ b ∈ u.path, textByte (b.toNat : Int) = true) ∧ (∀ b ∈ u.query, textByte (b.toNat : Int) = true) := by
  obtain ⟨h1, h2, h3, h4, h5⟩ := checkB_parts u h
  obtain ⟨a1, a2, a3, a4, a5, a6, a7, a8⟩ := h5 ho
  refine ⟨fun b hb => textByte_of _ (.inr (.inr (.inl ((allB_iff pathByte _).1 a5 b hb)))), fun b hb => ?_⟩
  rcases a8 with a8 | ⟨q, a8, a9⟩
  · rw [a8] at hb; cases hb
  · rw [a8] at hb
    rcases List.mem_cons.1 hb with rfl | hb
    · decide
    · exact textByte_of _ (.inr (.inr (.inr (.inl ((allB_iff qryByte _).1 a9 b hb)))))
theorem path_head (u : URL) (h : checkB u = true) (ho : u.opq = false) : ∃ r, u.path = 47 :: r := by
  obtain ⟨h1, h2, h3, h4, h5⟩ := checkB_parts u h
  obtain ⟨a1, a2, a3, a4, a5, a6, a7, a8⟩ := h5 ho
  cases hp : u.path with
  | nil => exact absurd hp a6
  | cons b r =>
    rw [hp] at a7
    by_cases hb : b = 47
    · exact ⟨r, by rw [hb]⟩
    · rw [cleanL_other b r hb] at a7
      cases a7
/-- An address' text is parsed as it. -/
theorem parse_text (u : URL) (h : checkB u = true) : parseB (textL u) = true ∧ parseU (textL u) = u ∧ trimL (textL u) = textL u := by
  obtain ⟨h1, h2, h3, h4, h5⟩ := checkB_parts u h
  obtain ⟨sa, sn, _⟩ := schemeB_all _ h1
  suffices hh : rawU (textL u) = u ∧ restL (frontL (trimL (textL u)) [35]) [58] ≠ [] ∧ trimL (textL u) = textL u by
    have hb : parseB (textL u) = true := by
      unfold parseB
      rw [hh.1, h, Bool.and_true]
      simpa using hh.2.1
    exact ⟨hb, by unfold parseU; rw [if_pos hb]; exact hh.1, hh.2.2⟩
  cases ho : u.opq
  · obtain ⟨a1, a2, a3, a4, a5, a6, a7, a8⟩ := h5 ho
    obtain ⟨pb, qb⟩ := ranked_bytes u h ho
    obtain ⟨r, hr⟩ := path_head u h ho
    have hd : defPort u.sch ≠ 0 := by
      intro e
      rw [e, ho] at h2
      cases h2
    have htb : ∀ b ∈ textL u, textByte (b.toNat : Int) = true := by
      rw [textL_front u ho]
      intro b hb
      simp only [List.mem_append] at hb
      rcases hb with hb | hb | hb
      · exact frontT_bytes _ _ _ h1 a1 a2 b hb
      · exact pb b hb
      · exact qb b hb
    have htr := trimL_text _ htb
    have hfr : frontL (trimL (textL u)) [35] = frontT u.sch u.host u.port ++ (u.path ++ u.query) := by
      rw [htr, (frontL_none _ _ (not_one (no_hash _ htb))).1, textL_front u ho]
    obtain ⟨k1, k2⟩ := raw_ranked (textL u) u.sch u.host (u.path ++ u.query) u.port h1 hd a1 a2 a3 a4 (.inr ⟨47, r ++ u.query, by rw [hr]; rfl, by simp⟩) hfr
    have h63 : (63 : UInt8) ∉ u.path := allB_not pathByte _ 63 (by decide) a5
    have hq : frontL (u.path ++ u.query) [63] = u.path ∧ restL (u.path ++ u.query) [63] = u.query := by
      rcases a8 with a8 | ⟨q, a8, _⟩
      · rw [a8, List.append_nil]; exact frontL_none _ _ (not_one h63)
      · rw [a8]; exact frontL_one _ q 63 h63
    refine ⟨?_, k2, htr⟩
    rw [k1, hq.1, hq.2, if_neg a6, a7]
    cases u
    simp only at ho
    rw [ho]
  · obtain ⟨b1, b2, b3, b4, b5⟩ := h4 ho
    have hd : defPort u.sch = 0 := by
      rw [ho] at h2
      simpa using h2.symm
    have hsb : ∀ b ∈ u.sch, textByte (b.toNat : Int) = true := fun b hb => textByte_of _ (.inl ((allB_iff schByte _).1 sa b hb))
    have htr : trimL (textL u) = textL u := by
      rw [textL_back u ho]
      refine trimL_id _ (fun b r e => ?_) (fun b r e => ?_)
      · cases hs : u.sch with
        | nil => exact absurd hs sn
        | cons x xs =>
          rw [hs] at e
          cases e
          exact textByte_bl _ (hsb _ (by rw [hs]; simp))
      · rcases List.eq_nil_or_concat u.path with hp | ⟨ys, y, hp⟩
        · rw [hp] at e
          have := (List.append_inj' e rfl).2
          cases this
          decide
        · rw [hp, List.concat_eq_append, ← List.cons_append, ← List.append_assoc] at e
          have e2 := (List.append_inj' e rfl).2
          cases e2
          exact (trimL_ends u.path b4).2 _ ys (by rw [hp, List.concat_eq_append])
    have h35 : (35 : UInt8) ∉ textL u := by
      rw [textL_back u ho]
      intro hm
      rcases List.mem_append.1 hm with hm | hm
      · exact allB_not schByte _ 35 (by decide) sa hm
      · rcases List.mem_cons.1 hm with hm | hm
        · cases hm
        · exact allB_not opqByte _ 35 (by decide) b5 hm
    have hfr : frontL (trimL (textL u)) [35] = u.sch ++ 58 :: u.path := by
      rw [htr, (frontL_none _ _ (not_one h35)).1, textL_back u ho]
    obtain ⟨f1, f2⟩ := frontL_one u.sch u.path 58 (allB_not schByte _ 58 (by decide) sa)
    refine ⟨?_, by rw [hfr, f2]; simp, htr⟩
    unfold rawU
    rw [hfr, f1, f2, low_of schByte schByte_small _ sa, if_pos hd]
    simp only [List.drop_succ_cons, List.drop_zero, b4]
    cases u
    simp only at ho b1 b2 b3
    rw [ho, b1, b2, b3]

structure Org where
  opq : Bool
  sch : List UInt8
  host : List UInt8
  port : Int
deriving DecidableEq
/-- An address' port, or its scheme's own. -/
def ownPort (u : URL) : Int := if u.port = 0 then defPort u.sch else u.port
def noOrg : Org := ⟨true, [], [], 0⟩
def orgB (u : URL) : Bool := checkB u && !u.opq
def orgOf (u : URL) : Org := if orgB u then ⟨false, u.sch, u.host, ownPort u⟩ else noOrg
def orgEq (a b : Org) : Bool := a.opq == b.opq && a.sch == b.sch && a.host == b.host && a.port == b.port
def orgSame (a b : Org) : Bool := orgEq a b && !a.opq
def orgText (o : Org) : List UInt8 := if o.opq then [110, 117, 108, 108] else o.sch ++ [58, 47, 47] ++ o.host ++ (if o.port = defPort o.sch then [] else [58] ++ Lib.itoa o.port)
def isTls (s : List UInt8) : Bool := s == [104, 116, 116, 112, 115] || s == [119, 115, 115]
def secureB (u : URL) : Bool := checkB u && isTls u.sch
theorem orgEq_iff (a b : Org) : orgEq a b = true ↔ a = b := by
  cases a
  cases b
  simp [orgEq, and_assoc]
theorem orgEq_self (a : Org) : orgEq a a = true := (orgEq_iff a a).2 rfl
/-- An address with another path that may be, and no query. -/
def rooted (u : URL) : URL := { u with path := [47], query := [] }
theorem rooted_right (u : URL) (h : checkB u = true) (ho : u.opq = false) : checkB (rooted u) = true := by
  obtain ⟨r, hr⟩ := path_head u h ho
  have ht : (textL (rooted u)).length ≤ (textL u).length := by
    rw [textL_front u ho, textL_front (rooted u) ho]
    show (frontT u.sch u.host u.port ++ ([47] ++ [])).length ≤ _
    rw [hr]
    simp
  unfold checkB at h ⊢
  simp only [Bool.and_eq_true, decide_eq_true_eq] at h ⊢
  obtain ⟨⟨⟨h1, h2⟩, h3⟩, h4⟩ := h
  rw [if_neg (by rw [ho]; decide)] at h3
  rw [if_neg (by show ¬ u.opq = true; rw [ho]; decide)]
  simp only [Bool.and_eq_true] at h3 ⊢
  obtain ⟨⟨⟨⟨⟨⟨⟨a1, a2⟩, a3⟩, a4⟩, a5⟩, a6⟩, a7⟩, a8⟩ := h3
  exact ⟨⟨⟨h1, h2⟩, ⟨⟨⟨⟨⟨⟨⟨a1, a2⟩, a3⟩, a4⟩, show allB pathByte [47] = true by decide⟩, show (([47] : List UInt8) != []) = true by decide⟩, show (cleanL [47] == [47]) = true by decide +kernel⟩, show (([] : List UInt8) == [] || _) = true by rfl⟩⟩, Nat.le_trans ht h4⟩
theorem defPort_tls (s : List UInt8) (h : isTls s = true) : defPort s ≠ 0 := by
  unfold isTls at h
  simp only [Bool.or_eq_true, beq_iff_eq] at h
  rcases h with rfl | rfl <;> decide
/-- What is secure is of an origin that says so. -/
theorem secure_org (u : URL) : secureB u = (!(orgOf u).opq && isTls (orgOf u).sch) := by
  unfold secureB orgOf orgB
  cases hc : checkB u
  · rfl
  · obtain ⟨h1, h2, h3, h4, h5⟩ := checkB_parts u hc
    cases ho : u.opq
    · rfl
    · simp only [Bool.true_and, Bool.not_true, Bool.false_eq_true, if_false]
      show isTls u.sch = (!noOrg.opq && _)
      cases ht : isTls u.sch
      · rfl
      · exfalso
        rw [ho] at h2
        exact defPort_tls _ ht (by simpa using h2.symm)
theorem ownPort_bounds (u : URL) (h : checkB u = true) (ho : u.opq = false) : 0 ≤ ownPort u ∧ ownPort u ≤ 65535 := by
  obtain ⟨h1, h2, h3, h4, h5⟩ := checkB_parts u h
  obtain ⟨a1, a2, a3, _⟩ := h5 ho
  have := defPort_bounds u.sch
  unfold ownPort
  split <;> omega
theorem ownPort_inj (a b : URL) (ha : checkB a = true) (hb : checkB b = true) (oa : a.opq = false) (ob : b.opq = false) (hs : a.sch = b.sch) : (ownPort a = ownPort b) ↔ a.port = b.port := by
  obtain ⟨_, _, _, _, h5⟩ := checkB_parts a ha
  obtain ⟨_, _, _, _, k5⟩ := checkB_parts b hb
  obtain ⟨_, _, _, a4, _⟩ := h5 oa
  obtain ⟨_, _, _, b4, _⟩ := k5 ob
  unfold ownPort
  rw [hs] at a4 ⊢
  by_cases e1 : a.port = 0 <;> by_cases e2 : b.port = 0
  · simp [e1, e2]
  · rw [if_pos e1, if_neg e2, e1]; constructor <;> intro h <;> omega
  · rw [if_neg e1, if_pos e2, e2]; constructor <;> intro h <;> omega
  · rw [if_neg e1, if_neg e2]
/-- Two right addresses have one origin just if scheme, host and port are the same. -/
theorem org_apart (a b : URL) (ha : checkB a = true) (hb : checkB b = true) (oa : a.opq = false) (ob : b.opq = false) :
    orgSame (orgOf a) (orgOf b) = (a.sch == b.sch && a.host == b.host && a.port == b.port) := by
  unfold orgSame orgOf orgB
  rw [ha, hb, oa, ob]
  simp only [Bool.not_false, Bool.and_true, if_true]
  rw [Bool.eq_iff_iff, orgEq_iff, Org.mk.injEq]
  simp only [Bool.and_eq_true, beq_iff_eq, true_and]
  constructor
  · rintro ⟨h1, h2, h3⟩
    exact ⟨⟨h1, h2⟩, (ownPort_inj a b ha hb oa ob h1).1 h3⟩
  · rintro ⟨⟨h1, h2⟩, h3⟩
    exact ⟨h1, h2, (ownPort_inj a b ha hb oa ob h1).2 h3⟩
theorem org_rooted (a : URL) (ha : checkB a = true) (oa : a.opq = false) : orgSame (orgOf a) (orgOf (rooted a)) = true := by
  rw [org_apart a (rooted a) ha (rooted_right a ha oa) oa oa]
  simp [rooted]
theorem secure_rooted (u : URL) (h : checkB u = true) (ho : u.opq = false) : secureB (rooted u) = secureB u := by
  unfold secureB
  rw [h, rooted_right u h ho]
  rfl
theorem itoa_inj (p q : Int) (hp : 0 ≤ p) (hq : 0 ≤ q) (h : Lib.itoa p = Lib.itoa q) : p = q := by
  rw [itoa_nat p hp, itoa_nat q hq] at h
  have h1 := (dec_digits p.toNat).1
  rw [h, (dec_digits q.toNat).1] at h1
  omega
/-- Two origins of right addresses have one text just if they are the same. -/
theorem org_texts (a b : URL) : (orgText (orgOf a) == orgText (orgOf b)) = orgEq (orgOf a) (orgOf b) := by
  have split : ∀ u : URL, orgOf u = noOrg ∨ (checkB u = true ∧ u.opq = false ∧ orgOf u = ⟨false, u.sch, u.host, ownPort u⟩) := by
    intro u
    unfold orgOf
    cases h : orgB u
    · exact .inl rfl
    · right
      unfold orgB at h
      rw [Bool.and_eq_true] at h
      exact ⟨h.1, by simpa using h.2, rfl⟩
  have mid : ∀ u : URL, checkB u = true → u.opq = false → orgOf u = ⟨false, u.sch, u.host, ownPort u⟩ → orgText (orgOf u) = u.sch ++ 58 :: 47 :: 47 :: (u.host ++ (if ownPort u = defPort u.sch then [] else 58 :: Lib.itoa (ownPort u))) := by
    intro u _ _ h
    rw [h]
    simp [orgText]
  have hnull : ∀ (x y : List UInt8), ([110, 117, 108, 108] : List UInt8) ≠ x ++ 58 :: y := by
    intro x y e
    have : (58 : UInt8) ∈ ([110, 117, 108, 108] : List UInt8) := by rw [e]; simp
    exact absurd this (by decide)
  rw [Bool.eq_iff_iff, beq_iff_eq, orgEq_iff]
  refine ⟨fun h => ?_, fun h => by rw [h]⟩
  rcases split a with ea | ⟨ca, oa, ea⟩ <;> rcases split b with eb | ⟨cb, ob, eb⟩
  · rw [ea, eb]
  · rw [mid b cb ob eb, ea] at h
    exact absurd h (hnull _ _)
  · rw [mid a ca oa ea, eb] at h
    exact absurd h.symm (hnull _ _)
  · rw [mid a ca oa ea, mid b cb ob eb] at h
    obtain ⟨a1, a2, a3, a4, a5⟩ := checkB_parts a ca
    obtain ⟨b1, b2, b3, b4, b5⟩ := checkB_parts b cb
    have na := allB_not schByte a.sch 58 (by decide) (schemeB_all _ a1).1
    have nb := allB_not schByte b.sch 58 (by decide) (schemeB_all _ b1).1
    have ma := allB_not hostByte a.host 58 (by decide) (hostB_all _ (a5 oa).1).1
    have mb := allB_not hostByte b.host 58 (by decide) (hostB_all _ (b5 ob).1).1
    have hs : a.sch = b.sch := by
      have h1 := (frontL_one a.sch (47 :: 47 :: (a.host ++ (if ownPort a = defPort a.sch then [] else 58 :: Lib.itoa (ownPort a)))) 58 na).1
      rw [h, (frontL_one b.sch _ 58 nb).1] at h1
      exact h1.symm
    rw [hs] at h
    have h2 := List.append_cancel_left h
    simp only [List.cons.injEq, true_and] at h2
    have tail : ∀ (x : List UInt8) (c : Prop) [Decidable c] (y : List UInt8), (58 : UInt8) ∉ x → frontL (x ++ (if c then [] else 58 :: y)) [58] = x ∧ restL (x ++ (if c then [] else 58 :: y)) [58] = if c then [] else 58 :: y := by
      intro x c _ y hx
      split
      · rw [List.append_nil]; exact frontL_none _ _ (not_one hx)
      · exact frontL_one x y 58 hx
    have ta := tail a.host (ownPort a = defPort b.sch) (Lib.itoa (ownPort a)) ma
    have tb := tail b.host (ownPort b = defPort b.sch) (Lib.itoa (ownPort b)) mb
    have hh : a.host = b.host := by
      rw [← ta.1, ← tb.1, h2]
    have hp : ownPort a = ownPort b := by
      have e : (if ownPort a = defPort b.sch then [] else 58 :: Lib.itoa (ownPort a)) = (if ownPort b = defPort b.sch then [] else 58 :: Lib.itoa (ownPort b)) := by
        rw [← ta.2, ← tb.2, h2]
      by_cases p1 : ownPort a = defPort b.sch <;> by_cases p2 : ownPort b = defPort b.sch
      · rw [p1, p2]
      · rw [if_pos p1, if_neg p2] at e; cases e
      · rw [if_neg p1, if_pos p2] at e; cases e
      · rw [if_neg p1, if_neg p2] at e
        exact itoa_inj _ _ (ownPort_bounds a ca oa).1 (ownPort_bounds b cb ob).1 (List.cons.inj e).2
    rw [ea, eb, hs, hh, hp]

/-- Behind the last slash of a text. -/
def lastN : List UInt8 → Nat
  | [] => 0
  | b :: l => if lastN l = 0 then (if b = 47 then 1 else 0) else lastN l + 1
theorem lastN_le (l : List UInt8) : lastN l ≤ l.length := by
  induction l with
  | nil => simp [lastN]
  | cons b l ih =>
    simp only [lastN, List.length_cons]
    repeat' split
    all_goals omega
theorem lastN_snoc (l : List UInt8) (b : UInt8) : lastN (l ++ [b]) = if b = 47 then l.length + 1 else lastN l := by
  induction l with
  | nil => by_cases h : b = 47 <;> simp [lastN, h]
  | cons x l ih =>
    rw [List.cons_append]
    simp only [lastN, ih]
    by_cases h : b = 47
    · simp [h]
    · simp [h]
theorem lastN_take (l : List UInt8) (k : Nat) (h : k < l.length) : lastN (l.take (k + 1)) = if l[k] = 47 then k + 1 else lastN (l.take k) := by
  rw [List.take_succ_eq_append_getElem h, lastN_snoc]
  simp only [List.length_take, Nat.min_eq_left (Nat.le_of_lt h)]
theorem lastN_zero (l : List UInt8) : lastN l = 0 ↔ (47 : UInt8) ∉ l := by
  induction l with
  | nil => simp [lastN]
  | cons b l ih =>
    simp only [lastN, List.mem_cons, not_or]
    by_cases h : lastN l = 0
    · rw [if_pos h]
      by_cases hb : b = 47
      · simp [hb]
      · simp [hb, ih.1 h, Ne.symm hb]
    · rw [if_neg h]
      constructor
      · intro e; omega
      · rintro ⟨_, h2⟩
        exact absurd (ih.2 h2) h
/-- A text up to its last slash. -/
def folderL (l : List UInt8) : List UInt8 := l.take (lastN l)
theorem folderL_cons (b : UInt8) (l : List UInt8) : folderL (b :: l) = if lastN l = 0 then (if b = 47 then [47] else []) else b :: folderL l := by
  unfold folderL
  simp only [lastN]
  by_cases h : lastN l = 0
  · rw [if_pos h, if_pos h]
    by_cases hb : b = 47
    · rw [if_pos hb, if_pos hb, hb]; rfl
    · rw [if_neg hb, if_neg hb]; rfl
  · rw [if_neg h, if_neg h, List.take_succ_cons]
theorem folderL_slash (l : List UInt8) : folderL (47 :: l) = 47 :: folderL l := by
  rw [folderL_cons]
  by_cases h : lastN l = 0
  · rw [if_pos h, if_pos rfl]
    simp [folderL, h]
  · rw [if_neg h]
theorem lastN_folder (l : List UInt8) : lastN (folderL l) = lastN l := by
  induction l with
  | nil => rfl
  | cons b l ih =>
    rw [folderL_cons]
    by_cases h : lastN l = 0
    · rw [if_pos h]
      by_cases hb : b = 47
      · rw [if_pos hb, hb]; simp [lastN, h]
      · rw [if_neg hb]; simp [lastN, h, hb]
    · rw [if_neg h]
      simp only [lastN, ih]
theorem folderL_twice (l : List UInt8) : folderL (folderL l) = folderL l := by
  show (folderL l).take (lastN (folderL l)) = _
  rw [lastN_folder, folderL, List.take_take, Nat.min_self]
theorem splitC_folder (l : List UInt8) : splitC 47 (folderL l) = (splitC 47 l).dropLast ++ [[]] := by
  induction l with
  | nil => rfl
  | cons b l ih =>
    by_cases hb : b = 47
    · subst hb
      rw [folderL_slash]
      simp only [splitC, if_true, ih]
      rw [List.dropLast_cons_of_ne_nil (splitC_ne 47 l)]
      rfl
    · rw [folderL_cons]
      by_cases h : lastN l = 0
      · rw [if_pos h, if_neg hb]
        simp only [splitC, if_neg hb, splitC_whole 47 l ((lastN_zero l).1 h)]
        rfl
      · rw [if_neg h]
        simp only [splitC, if_neg hb, ih]
        cases hs : splitC 47 l with
        | nil => exact absurd hs (splitC_ne 47 l)
        | cons x xs =>
          cases xs with
          | nil =>
            exfalso
            have hj := join_splitC 47 l
            rw [hs, Lib.join_one] at hj
            exact h ((lastN_zero l).2 (by rw [← hj]; exact splitC_no 47 l x (by rw [hs]; simp)))
          | cons y ys => simp
/-- An address' folder. -/
def folderU (u : URL) : URL := { u with path := folderL u.path, query := [] }
theorem folder_right (u : URL) (h : checkB u = true) (ho : u.opq = false) : checkB (folderU u) = true := by
  obtain ⟨r, hr⟩ := path_head u h ho
  have hle := lastN_le u.path
  have ht : (textL (folderU u)).length ≤ (textL u).length := by
    rw [textL_front u ho, textL_front (folderU u) ho]
    show (frontT u.sch u.host u.port ++ (folderL u.path ++ [])).length ≤ _
    unfold folderL
    simp
    omega
  obtain ⟨h1, h2, h3, h4, h5⟩ := checkB_parts u h
  obtain ⟨a1, a2, a3, a4, a5, a6, a7, a8⟩ := h5 ho
  have b5 : allB pathByte (folderL u.path) = true := (allB_iff pathByte _).2 fun b hb => (allB_iff pathByte _).1 a5 b (List.mem_of_mem_take hb)
  have b7 : cleanL (folderL u.path) = folderL u.path := by
    rw [hr] at a7 ⊢
    rw [folderL_slash]
    refine (cleanL_iff_same _).2 fun p hp => ?_
    rw [splitC_folder] at hp
    rcases List.mem_append.1 hp with hp | hp
    · exact (cleanL_iff_same r).1 a7 p ((List.dropLast_sublist _).subset hp)
    · rw [List.mem_singleton.1 hp]; simp [stays]
  have b6 : folderL u.path ≠ [] := by rw [hr, folderL_slash]; simp
  unfold checkB
  simp only [Bool.and_eq_true, decide_eq_true_eq]
  refine ⟨⟨⟨h1, (by rw [beq_iff_eq]; exact h2 : (u.opq == (defPort u.sch == 0)) = true)⟩, ?_⟩, Nat.le_trans ht h3⟩
  rw [if_neg (by show ¬ u.opq = true; rw [ho]; decide)]
  simp only [Bool.and_eq_true, decide_eq_true_eq]
  exact ⟨⟨⟨⟨⟨⟨⟨a1, a2⟩, a3⟩, bne_iff_ne.2 a4⟩, b5⟩, bne_iff_ne.2 b6⟩, beq_iff_eq.2 b7⟩, by simp [folderU]⟩
/-- The kind of a text that is joined. -/
def kindL (ref : List UInt8) : Int :=
  if restL (trimL ref) [58] ≠ [] ∧ schemeB (lowerL (frontL (trimL ref) [58])) = true then 1
  else if Lib.hasPrefix (trimL ref) [47, 47] then 2
  else if Lib.hasPrefix (trimL ref) [47] then 3
  else if trimL ref = [] ∨ Lib.hasPrefix (trimL ref) [35] then 4
  else if Lib.hasPrefix (trimL ref) [63] then 5
  else 6
theorem kindL_trim (s t : List UInt8) (h : trimL s = trimL t) : kindL s = kindL t := by unfold kindL; rw [h]
theorem kindL_bounds (s : List UInt8) : 1 ≤ kindL s ∧ kindL s ≤ 6 := by
  unfold kindL
  repeat' split
  all_goals omega
/-- The text that is parsed. -/
def joinT (base : URL) (k : Int) (r : List UInt8) : List UInt8 :=
  if k = 2 then base.sch ++ [58] ++ r
  else if k = 3 then frontT base.sch base.host base.port ++ r
  else if k = 5 then frontT base.sch base.host base.port ++ base.path ++ r
  else if k = 6 then frontT base.sch base.host base.port ++ folderL base.path ++ r
  else textL base
/-- May something be joined to an address? -/
def baseOk (u : URL) : Bool := checkB u && !u.opq
def joinU (base : URL) (ref : List UInt8) : URL :=
  if kindL ref = 1 then parseU ref else if baseOk base then parseU (joinT base (kindL ref) (frontL (trimL ref) [35])) else zeroU
def joinE (base : URL) (ref : List UInt8) : Int :=
  if kindL ref = 1 then parseE ref else if baseOk base then parseE (joinT base (kindL ref) (frontL (trimL ref) [35])) else 51
theorem isSch_eq (s : List UInt8) : (defPort s != 0 || checkB ⟨true, s, [], 0, [], []⟩) = schemeB s := by
  by_cases h : defPort s = 0
  · have hb : (defPort s != 0) = false := by simp [h]
    rw [hb, Bool.false_or]
    cases hs : schemeB s
    · unfold checkB
      show (schemeB s && _ && _ && _) = false
      rw [hs]
      rfl
    · have hl := (schemeB_all s hs).2.2
      unfold checkB
      simp only [hs, h]
      rw [show textL ⟨true, s, [], 0, [], []⟩ = s ++ [58] ++ [] from rfl]
      simp [allB, trimL, Lib.trimS, Lib.trimLeftS, Lib.trimRightS]
      omega
  · have hb : (defPort s != 0) = true := by simp [h]
    rw [hb, Bool.true_or]
    unfold defPort at h
    split at h
    · rename_i h1
      rcases h1 with rfl | rfl <;> decide +kernel
    · split at h
      · rename_i h1
        rcases h1 with rfl | rfl <;> decide +kernel
      · exact absurd rfl h
theorem joinU_trim (b : URL) (s t : List UInt8) (h : trimL s = trimL t) : joinU b s = joinU b t ∧ joinE b s = joinE b t := by
  obtain ⟨h1, h2⟩ := parseU_trim s t h
  unfold joinU joinE
  rw [kindL_trim s t h, h, h1, h2]
  exact ⟨rfl, rfl⟩
/-- Blanks around a text play no part. -/
theorem joinU_blanks (b : URL) (s : List UInt8) : joinU b ([32] ++ s ++ [10]) = joinU b s ∧ joinE b ([32] ++ s ++ [10]) = joinE b s :=
  joinU_trim b _ _ (by rw [trimL_behind _ [10] (by decide), trimL_ahead [32] s (by decide)])
theorem kindL_text (u : URL) (h : checkB u = true) : kindL (textL u) = 1 := by
  obtain ⟨h1, h2, h3, h4, h5⟩ := checkB_parts u h
  obtain ⟨_, _, ht⟩ := parse_text u h
  obtain ⟨sa, sn, _⟩ := schemeB_all _ h1
  have e : ∃ x, textL u = u.sch ++ 58 :: x := by
    cases ho : u.opq
    · rw [textL_front u ho]
      exact ⟨47 :: 47 :: (u.host ++ portT u.port ++ (u.path ++ u.query)), by simp [frontT]⟩
    · exact ⟨_, textL_back u ho⟩
  obtain ⟨x, hx⟩ := e
  obtain ⟨f1, f2⟩ := frontL_one u.sch x 58 (allB_not schByte _ 58 (by decide) sa)
  unfold kindL
  rw [ht, hx, f1, f2, low_of schByte schByte_small _ sa, if_pos ⟨by simp, h1⟩]
theorem parseE_zero (s : List UInt8) : parseE s = 0 ↔ parseB s = true := by
  unfold parseE
  cases parseB s <;> simp
theorem joinE_right (b : URL) (s : List UInt8) (h : joinE b s = 0) : checkB (joinU b s) = true := by
  unfold joinE at h
  unfold joinU
  split at h
  · rename_i hk
    rw [if_pos hk]
    exact parseU_right s ((parseE_zero s).1 h)
  · rename_i hk
    rw [if_neg hk]
    split at h
    · rename_i ho
      rw [if_pos ho]
      exact parseU_right _ ((parseE_zero _).1 h)
    · cases h
theorem joinE_wrong (b : URL) (s : List UInt8) (h : joinE b s ≠ 0) : joinU b s = zeroU := by
  have hp : ∀ t, parseE t ≠ 0 → parseU t = zeroU := fun t ht => by
    unfold parseE at ht
    unfold parseU
    split at ht
    · exact absurd rfl ht
    · rename_i hx; rw [if_neg hx]
  unfold joinE at h
  unfold joinU
  split at h
  · rename_i hk
    rw [if_pos hk]
    exact hp s h
  · rename_i hk
    rw [if_neg hk]
    split at h
    · rename_i ho
      rw [if_pos ho]
      exact hp _ h
    · rename_i ho
      rw [if_neg ho]
/-- What was joined, joined again, is the same. -/
theorem join_again (other : URL) (u : URL) (h : checkB u = true) : joinU other (textL u) = u ∧ joinE other (textL u) = 0 := by
  obtain ⟨p1, p2, _⟩ := parse_text u h
  unfold joinU joinE
  rw [kindL_text u h, if_pos rfl, if_pos rfl]
  exact ⟨p2, (parseE_zero _).2 p1⟩
/-- What is joined to an address is joined to its folder's in the same way. -/
theorem join_folder (b : URL) (s : List UInt8) (hb : checkB b = true) (ho : b.opq = false) (hk : kindL s = 6) : joinU (folderU b) s = joinU b s ∧ joinE (folderU b) s = joinE b s := by
  have hf := folder_right b hb ho
  have o1 : baseOk b = true := by unfold baseOk; rw [hb, ho]; rfl
  have o2 : baseOk (folderU b) = true := by
    unfold baseOk
    rw [hf]
    show (true && !b.opq) = true
    rw [ho]
    rfl
  have ht : joinT (folderU b) 6 (frontL (trimL s) [35]) = joinT b 6 (frontL (trimL s) [35]) := by
    unfold joinT
    simp only [show ¬ (6 : Int) = 2 by decide, show ¬ (6 : Int) = 3 by decide, show ¬ (6 : Int) = 5 by decide, if_false, if_true]
    show frontT b.sch b.host b.port ++ folderL (folderL b.path) ++ _ = _
    rw [folderL_twice]
  unfold joinU joinE
  rw [hk]
  simp only [show ¬ (6 : Int) = 1 by decide, if_false, o1, o2, if_true, ht]
  exact ⟨trivial, trivial⟩
theorem frontL_not (l : List UInt8) (c : UInt8) : c ∉ frontL l [c] := by
  unfold frontL
  induction l with
  | nil => simp
  | cons b l ih =>
    rw [List.takeWhile_cons]
    split
    · rename_i hb
      simp only [List.mem_cons, not_or]
      refine ⟨fun e => ?_, ih⟩
      subst e
      simp at hb
    · simp
/-- A text that begins with the address' front has its scheme, host and port. -/
theorem parse_front (sch host Y : List UInt8) (n : Int) (hs : schemeB sch = true) (hd : defPort sch ≠ 0) (hh : hostB host = true) (h0 : 0 ≤ n) (h1 : n ≤ 65535) (hn : n ≠ defPort sch)
    (hY : Y = [] ∨ ∃ c r, Y = c :: r ∧ c ∈ ([47, 63] : List UInt8)) (h35 : (35 : UInt8) ∉ Y) (hp : parseB (frontT sch host n ++ Y) = true) :
    (parseU (frontT sch host n ++ Y)).opq = false ∧ (parseU (frontT sch host n ++ Y)).sch = sch ∧ (parseU (frontT sch host n ++ Y)).host = host ∧ (parseU (frontT sch host n ++ Y)).port = n := by
  have hF := frontT_bytes sch host n hs hh h0
  have htr : trimL (frontT sch host n ++ Y) = frontT sch host n ++ (Y.reverse.dropWhile isBl).reverse := by
    rw [trimL_eq, List.reverse_append, dropWhile_split]
    have hFr : (frontT sch host n).reverse.dropWhile isBl = (frontT sch host n).reverse := by
      cases e : (frontT sch host n).reverse with
      | nil => rfl
      | cons x xs => exact dropWhile_id isBl x xs (textByte_bl x (hF x (List.mem_reverse.1 (by rw [e]; simp))))
    obtain ⟨x, xs, hx⟩ : ∃ x xs, frontT sch host n = x :: xs := by
      cases e : frontT sch host n with
      | nil => exact absurd e (frontT_ne _ _ _)
      | cons x xs => exact ⟨x, xs, rfl⟩
    have hx0 : isBl x = false := textByte_bl x (hF x (by rw [hx]; simp))
    split
    · rename_i e
      rw [hFr, e, List.reverse_reverse, hx]
      simpa using dropWhile_id isBl x xs hx0
    · rw [List.reverse_append, List.reverse_reverse, hx]
      exact dropWhile_id isBl x _ hx0
  have hY2 : (Y.reverse.dropWhile isBl).reverse = [] ∨ ∃ c r, (Y.reverse.dropWhile isBl).reverse = c :: r ∧ c ∈ ([47, 63] : List UInt8) := by
    rcases hY with rfl | ⟨c, r, rfl, hc⟩
    · exact .inl rfl
    · right
      rw [List.reverse_cons, dropWhile_split]
      have hcb : isBl c = false := by
        simp only [List.mem_cons, List.not_mem_nil, or_false] at hc
        rcases hc with rfl | rfl <;> decide
      split
      · rw [dropWhile_id isBl c [] hcb]
        exact ⟨c, [], rfl, hc⟩
      · rw [List.reverse_append]
        exact ⟨c, _, rfl, hc⟩
  have h352 : (35 : UInt8) ∉ frontT sch host n ++ (Y.reverse.dropWhile isBl).reverse := by
    intro hm
    rcases List.mem_append.1 hm with hm | hm
    · exact no_hash _ hF hm
    · exact h35 (List.mem_reverse.1 ((List.dropWhile_sublist _).subset (List.mem_reverse.1 hm)))
  have hfr : frontL (trimL (frontT sch host n ++ Y)) [35] = frontT sch host n ++ (Y.reverse.dropWhile isBl).reverse := by
    rw [htr, (frontL_none _ _ (not_one h352)).1]
  obtain ⟨k1, _⟩ := raw_ranked (frontT sch host n ++ Y) sch host _ n hs hd hh h0 h1 hn hY2 hfr
  unfold parseU
  rw [if_pos hp, k1]
  exact ⟨rfl, rfl, rfl, rfl⟩
/-- A text of the kinds 3 to 6 leaves scheme, host and port. -/
theorem join_keeps (b : URL) (s : List UInt8) (he : joinE b s = 0) (hk : 3 ≤ kindL s) :
    (joinU b s).opq = false ∧ (joinU b s).sch = b.sch ∧ (joinU b s).host = b.host ∧ (joinU b s).port = b.port := by
  have hk6 := (kindL_bounds s).2
  have h35 : (35 : UInt8) ∉ frontL (trimL s) [35] := frontL_not _ _
  unfold joinE at he
  rw [if_neg (by omega)] at he
  unfold joinU
  rw [if_neg (by omega)]
  split at he
  · rename_i ho
    rw [if_pos ho]
    have hp := (parseE_zero _).1 he
    unfold baseOk at ho
    rw [Bool.and_eq_true] at ho
    obtain ⟨hb, ho⟩ := ho
    replace ho : b.opq = false := by simpa using ho
    obtain ⟨h1, h2, h3, h4, h5⟩ := checkB_parts b hb
    obtain ⟨a1, a2, a3, a4, a5, a6, a7, a8⟩ := h5 ho
    obtain ⟨pb, qb⟩ := ranked_bytes b hb ho
    obtain ⟨r, hr⟩ := path_head b hb ho
    have hd : defPort b.sch ≠ 0 := by
      intro e
      rw [e, ho] at h2
      cases h2
    have key : ∀ Y, (Y = [] ∨ ∃ c r, Y = c :: r ∧ c ∈ ([47, 63] : List UInt8)) → (35 : UInt8) ∉ Y → joinT b (kindL s) (frontL (trimL s) [35]) = frontT b.sch b.host b.port ++ Y →
        (parseU (joinT b (kindL s) (frontL (trimL s) [35]))).opq = false ∧ (parseU (joinT b (kindL s) (frontL (trimL s) [35]))).sch = b.sch ∧ (parseU (joinT b (kindL s) (frontL (trimL s) [35]))).host = b.host ∧ (parseU (joinT b (kindL s) (frontL (trimL s) [35]))).port = b.port := by
      intro Y hY hY35 hj
      rw [hj] at hp ⊢
      exact parse_front b.sch b.host Y b.port h1 hd a1 a2 a3 a4 hY hY35 hp
    have hpath : (35 : UInt8) ∉ b.path := no_hash _ pb
    have hq : (35 : UInt8) ∉ b.query := no_hash _ qb
    have cases4 : kindL s = 3 ∨ kindL s = 4 ∨ kindL s = 5 ∨ kindL s = 6 := by omega
    rcases cases4 with e | e | e | e
    · refine key (frontL (trimL s) [35]) ?_ h35 (by rw [e]; rfl)
      have hpre : Lib.hasPrefix (trimL s) [47] = true := by
        unfold kindL at e
        repeat' split at e
        all_goals first | assumption | omega
      cases ht : trimL s with
      | nil => rw [ht] at hpre; simp [Lib.hasPrefix] at hpre
      | cons x xs =>
        rw [ht] at hpre
        simp [Lib.hasPrefix] at hpre
        subst hpre
        right
        exact ⟨47, _, List.takeWhile_cons_of_pos (by decide), by simp⟩
    · refine key (b.path ++ b.query) (.inr ⟨47, r ++ b.query, by rw [hr]; rfl, by simp⟩) (by simp [hpath, hq]) ?_
      rw [e]
      exact textL_front b ho
    · refine key (b.path ++ frontL (trimL s) [35]) (.inr ⟨47, r ++ frontL (trimL s) [35], by rw [hr]; rfl, by simp⟩) (by simp [hpath, h35]) ?_
      rw [e]
      show frontT b.sch b.host b.port ++ b.path ++ _ = _
      rw [List.append_assoc]
    · refine key (folderL b.path ++ frontL (trimL s) [35]) (.inr ⟨47, folderL r ++ frontL (trimL s) [35], by rw [hr, folderL_slash]; rfl, by simp⟩) ?_ ?_
      · intro hm
        rcases List.mem_append.1 hm with hm | hm
        · exact hpath (List.mem_of_mem_take hm)
        · exact h35 hm
      · rw [e]
        show frontT b.sch b.host b.port ++ folderL b.path ++ _ = _
        rw [List.append_assoc]
  · cases he

/-- A source. -/
structure Src where
  kind : Int
  text : List UInt8
  sch : List UInt8
  host : List UInt8
  wild : Bool
  port : Int
  path : List UInt8
deriving DecidableEq
def schM (told l : List UInt8) : Bool := told == l || ((told == [104, 116, 116, 112] || told == [119, 115]) && l == told ++ [115])
/-- Ends a text with another one, with something ahead of it? -/
def endsB (l t : List UInt8) : Bool := decide (t.length < l.length) && l.drop (l.length - t.length) == t
def hostM (wild : Bool) (told host : List UInt8) : Bool := if wild then lowerL told == [] || endsB (lowerL host) (46 :: lowerL told) else lowerL told == lowerL host
def portM (p : Int) (u : URL) : Bool := if p = -1 then true else if p = 0 then ownPort u == defPort u.sch else if p = 80 then ownPort u == 80 || ownPort u == 443 else ownPort u == p
def pathM (told l : List UInt8) (moved : Bool) : Bool := moved || told == [] || told == l || (told.getLast? == some 47 && Lib.hasPrefix l told)
def toldS (s : Src) (own : URL) : List UInt8 := if s.sch = [] ∧ s.kind = 12 then own.sch else s.sch
def plainM (u own : URL) : Bool := !u.opq && !own.opq && u.port == 0 && own.port == 0 && u.host == own.host
def urlM (s : Src) (u own : URL) (moved : Bool) : Bool :=
  if s.kind = 11 then checkB u && schM (toldS s own) u.sch
  else if s.kind = 12 then checkB u && schM (toldS s own) u.sch && !u.opq && hostM s.wild s.host u.host && portM s.port u && pathM s.path u.path moved
  else if s.kind = 2 then orgSame (orgOf u) (orgOf own) || (checkB u && plainM u own && (checkB own && schM own.sch u.sch))
  else false
theorem pathM_moved (told l : List UInt8) : pathM told l true = true := by unfold pathM; rfl
theorem pathM_nil (l : List UInt8) (m : Bool) : pathM [] l m = true := by unfold pathM; simp
/-- What is let be without being moved is let be moved; without a path being moved plays no part. -/
theorem match_moved (s : Src) (u own : URL) : ((!urlM s u own false || urlM s u own true) && (s.path != [] || urlM s u own false == urlM s u own true)) = true := by
  unfold urlM
  by_cases h1 : s.kind = 11
  · simp only [if_pos h1]
    cases (checkB u && schM (toldS s own) u.sch) <;> simp
  · by_cases h2 : s.kind = 12
    · simp only [if_neg h1, if_pos h2, pathM_moved, Bool.and_true]
      generalize (checkB u && schM (toldS s own) u.sch && !u.opq && hostM s.wild s.host u.host && portM s.port u) = x
      by_cases hp : s.path = []
      · simp [hp, pathM_nil]
      · cases x <;> simp [hp]
    · simp only [if_neg h1, if_neg h2]
      generalize (if s.kind = 2 then orgSame (orgOf u) (orgOf own) || (checkB u && plainM u own && (checkB own && schM own.sch u.sch)) else false) = x
      cases x <;> simp
theorem schM_self (l : List UInt8) : schM l l = true := by unfold schM; simp
/-- The widest source. -/
theorem match_wide (u own : URL) (m : Bool) (h : checkB u = true) :
    urlM ⟨12, [], [], [], true, -1, []⟩ u own m = (!u.opq && schM own.sch u.sch) ∧ urlM ⟨11, [], u.sch, [], false, 0, []⟩ u own m = true := by
  refine ⟨?_, ?_⟩
  · unfold urlM toldS
    simp [h, hostM, lowerL, portM, pathM_nil, Bool.and_comm]
  · unfold urlM toldS
    simp [h, schM_self]
/-- What is of the page's own origin is let be by the word for it; what is of another host never. -/
theorem match_self (u own : URL) (m : Bool) : ((!orgSame (orgOf u) (orgOf own) || urlM ⟨2, [], [], [], false, 0, []⟩ u own m) && (!urlM ⟨2, [], [], [], false, 0, []⟩ u own m || (u.host == own.host && !u.opq && checkB u))) = true := by
  have e : urlM ⟨2, [], [], [], false, 0, []⟩ u own m = (orgSame (orgOf u) (orgOf own) || (checkB u && plainM u own && (checkB own && schM own.sch u.sch))) := by
    unfold urlM
    simp
  rw [e]
  have hs : orgSame (orgOf u) (orgOf own) = true → (u.host == own.host && !u.opq && checkB u) = true := by
    intro h
    have hu : orgB u = true := by
      cases hb : orgB u
      · unfold orgSame orgOf at h
        rw [hb] at h
        simp [noOrg] at h
      · rfl
    have ho : orgB own = true := by
      cases hb : orgB own
      · have : orgOf own = noOrg := by unfold orgOf; rw [hb]; rfl
        unfold orgSame at h
        rw [this, Bool.and_eq_true, orgEq_iff] at h
        rw [h.1] at h
        simp [noOrg] at h
      · rfl
    unfold orgB at hu ho
    rw [Bool.and_eq_true] at hu ho
    have h2 := org_apart u own hu.1 ho.1 (by simpa using hu.2) (by simpa using ho.2)
    rw [h] at h2
    have h3 := h2.symm
    simp only [Bool.and_eq_true] at h3
    rw [h3.1.2, hu.1, hu.2]
    rfl
  cases hsame : orgSame (orgOf u) (orgOf own)
  · simp only [Bool.false_or, Bool.not_false, Bool.true_or, Bool.true_and]
    cases hc : checkB u
    · simp
    · cases hp : plainM u own
      · simp
      · unfold plainM at hp
        simp only [Bool.and_eq_true] at hp
        rw [hp.2, hp.1.1.1.1]
        simp
  · rw [hs hsame]
    simp
/-- A source without a scheme lets just that be which it lets be with the page's. -/
theorem match_scheme (s : Src) (u own : URL) (m : Bool) (hk : s.kind = 12) (hs : s.sch = []) (ho : own.sch ≠ []) : urlM s u own m = urlM { s with sch := own.sch } u own m := by
  unfold urlM toldS
  simp [hk, hs, ho]
theorem lowerL_append (a b : List UInt8) : lowerL (a ++ b) = lowerL a ++ lowerL b := by simp [lowerL]
/-- A wild source. -/
theorem match_wilder (host ahead : List UInt8) (h : host ≠ []) :
    hostM true host (ahead ++ [46] ++ host) = (ahead != []) ∧ hostM true host host = false ∧ hostM false host host = true ∧ hostM false host (ahead ++ [46] ++ host) = false := by
  have hl : (lowerL host == []) = false := by
    rw [beq_eq_false_iff_ne]
    intro e
    have := congrArg List.length e
    rw [lowerL_length] at this
    exact h (List.eq_nil_of_length_eq_zero this)
  refine ⟨?_, ?_, ?_, ?_⟩
  · unfold hostM
    rw [if_pos rfl, hl, Bool.false_or, lowerL_append, lowerL_append]
    have e : lowerL [46] ++ lowerL host = 46 :: lowerL host := rfl
    rw [List.append_assoc, e]
    unfold endsB
    rw [List.length_append, lowerL_length, Nat.add_sub_cancel, Nat.add_comm]
    have : (lowerL ahead ++ 46 :: lowerL host).drop ahead.length = 46 :: lowerL host := by
      have := List.drop_left (l₁ := lowerL ahead) (l₂ := 46 :: lowerL host)
      rwa [lowerL_length] at this
    rw [this]
    cases ahead with
    | nil => simp
    | cons x xs => simp
  · unfold hostM
    rw [if_pos rfl, hl, Bool.false_or]
    unfold endsB
    rw [decide_eq_false (by simp)]
    rfl
  · unfold hostM
    simp
  · unfold hostM
    simp only [Bool.false_eq_true, if_false]
    rw [beq_eq_false_iff_ne]
    intro e
    have := congrArg List.length e
    rw [lowerL_length, lowerL_length] at this
    simp at this
    omega

theorem small_of (u : URL) (h : checkB u = true) : u.sch.length ≤ 500 ∧ u.host.length ≤ 500 ∧ u.path.length ≤ 500 ∧ u.query.length ≤ 500 ∧ 0 ≤ u.port ∧ u.port ≤ 65535 := by
  obtain ⟨h1, h2, h3, h4, h5⟩ := checkB_parts u h
  cases ho : u.opq
  · obtain ⟨a1, a2, a3, a4, a5, a6, a7, a8⟩ := h5 ho
    rw [textL_front u ho, List.length_append, List.length_append] at h3
    have hf : u.sch.length + u.host.length ≤ (frontT u.sch u.host u.port).length := by
      unfold frontT
      simp
      omega
    exact ⟨by omega, by omega, by omega, by omega, a2, a3⟩
  · obtain ⟨b1, b2, b3, b4, b5⟩ := h4 ho
    rw [textL_back u ho, List.length_append, List.length_cons] at h3
    rw [b1, b2, b3]
    exact ⟨by omega, by simp, by omega, by simp, by omega, by omega⟩
theorem join_small (b : URL) (s : List UInt8) (h : joinE b s = 0) : (joinU b s).sch.length ≤ 500 ∧ (joinU b s).host.length ≤ 500 ∧ (joinU b s).path.length ≤ 500 ∧ (joinU b s).query.length ≤ 500 ∧ 0 ≤ (joinU b s).port ∧ (joinU b s).port ≤ 65535 :=
  small_of _ (joinE_right b s h)

/-- Nothing but bytes from 33 to 126, without a #. -/
def noHashB (c : Int) : Bool := !(decide (c < 33) || decide (126 < c) || c == 35 || c == 35)
/-- May a text stand behind an opaque one's scheme? -/
def restP (l : List UInt8) : Bool := allB opqByte l && trimL l == l
/-- Is a path clean? -/
def cleanP (l : List UInt8) : Bool := l != [] && allB pathByte l && cleanL l == l
/-- The reference's tests, one behind the other. -/
def rightB (o : Bool) (a b : List UInt8) (n : Int) (c d : List UInt8) : Bool :=
  schemeB a && !decide ((500 : Int) < c.length) && !decide ((500 : Int) < d.length) && !decide ((500 : Int) < b.length) &&
  (if o then (defPort a == 0) && restP c && b == [] && d == [] && n == 0 && decide (((textL ⟨o, a, b, n, c, d⟩).length : Int) ≤ 500)
   else !(defPort a == 0) && hostB b && !decide (n < 0) && !decide (65535 < n) && !(n == defPort a) && cleanP c && (d == [] || ((((d.headD 0).toNat : Int) == 63) && allB noHashB d)) && decide (((textL ⟨o, a, b, n, c, d⟩).length : Int) ≤ 500))
theorem noHash_qry (q : List UInt8) : allB noHashB (63 :: q) = allB qryByte q := by
  show (noHashB 63 && allB noHashB q) = _
  have e : noHashB 63 = true := by decide
  rw [e, Bool.true_and]
  have : noHashB = qryByte := by
    funext c
    unfold noHashB qryByte pathByte
    rw [Bool.eq_iff_iff]
    simp
    omega
  rw [this]
theorem rightB_eq (o : Bool) (a b : List UInt8) (n : Int) (c d : List UInt8) : rightB o a b n c d = checkB ⟨o, a, b, n, c, d⟩ := by
  cases o
  · have hl : (textL ⟨false, a, b, n, c, d⟩).length = (frontT a b n).length + (c.length + d.length) := by
      rw [textL_front ⟨false, a, b, n, c, d⟩ rfl, List.length_append, List.length_append]
    have hf : b.length ≤ (frontT a b n).length := by
      unfold frontT
      simp
      omega
    have hq : (d == [] || ((((d.headD 0).toNat : Int) == 63) && allB noHashB d)) = (d == [] || (((d.headD 0).toNat : Int) == 63 && allB qryByte d.tail)) := by
      cases d with
      | nil => rfl
      | cons x q =>
        by_cases hx : x = 63
        · subst hx
          rw [noHash_qry]
          rfl
        · have : (((x.toNat : Int)) == 63) = false := by
            rw [beq_eq_false_iff_ne]
            intro e
            apply hx
            apply UInt8.toNat.inj
            show x.toNat = 63
            omega
          simp [this]
    unfold rightB checkB
    simp only [Bool.false_eq_true, if_false]
    rw [hq]
    generalize (d == [] || (((d.headD 0).toNat : Int) == 63 && allB qryByte d.tail)) = q
    rw [hl, Bool.eq_iff_iff]
    unfold cleanP
    simp only [Bool.and_eq_true, Bool.not_eq_true', decide_eq_true_eq, decide_eq_false_iff_not, bne_iff_ne, ne_eq, beq_iff_eq, beq_eq_false_iff_ne]
    constructor
    · rintro ⟨⟨⟨⟨h1, h2⟩, h3⟩, h4⟩, ⟨⟨⟨⟨⟨⟨⟨g1, g2⟩, g3⟩, g4⟩, g5⟩, ⟨⟨g6, g7⟩, g8⟩⟩, g9⟩, g10⟩⟩
      refine ⟨⟨⟨h1, by simpa using g1⟩, ⟨⟨⟨⟨⟨⟨⟨g2, by omega⟩, by omega⟩, g5⟩, g7⟩, g6⟩, g8⟩, g9⟩⟩, by omega⟩
    · rintro ⟨⟨⟨h1, h2⟩, ⟨⟨⟨⟨⟨⟨⟨g2, g3⟩, g4⟩, g5⟩, g7⟩, g6⟩, g8⟩, g9⟩⟩, g10⟩
      refine ⟨⟨⟨⟨h1, by omega⟩, by omega⟩, by omega⟩, ⟨⟨⟨⟨⟨⟨⟨by simpa using h2, g2⟩, by omega⟩, by omega⟩, g5⟩, ⟨⟨g6, g7⟩, g8⟩⟩, g9⟩, by omega⟩⟩
  · have hl : (textL ⟨true, a, b, n, c, d⟩).length = a.length + (c.length + 1) := by
      rw [textL_back ⟨true, a, b, n, c, d⟩ rfl]
      simp
    unfold rightB checkB
    simp only [if_true]
    rw [hl, Bool.eq_iff_iff]
    unfold restP
    simp only [Bool.and_eq_true, Bool.not_eq_true', decide_eq_true_eq, decide_eq_false_iff_not, beq_iff_eq]
    constructor
    · rintro ⟨⟨⟨⟨h1, h2⟩, h3⟩, h4⟩, ⟨⟨⟨⟨⟨g1, ⟨g2, g3⟩⟩, g4⟩, g5⟩, g6⟩, g7⟩⟩
      exact ⟨⟨⟨h1, by simp [g1]⟩, ⟨⟨⟨⟨g4, g5⟩, g6⟩, g3⟩, g2⟩⟩, by omega⟩
    · rintro ⟨⟨⟨h1, h2⟩, ⟨⟨⟨⟨g4, g5⟩, g6⟩, g3⟩, g2⟩⟩, g7⟩
      exact ⟨⟨⟨⟨h1, by omega⟩, by rw [g5]; simp⟩, by rw [g4]; simp⟩, ⟨⟨⟨⟨⟨by simpa using h2.symm, ⟨g2, g3⟩⟩, g4⟩, g5⟩, g6⟩, by omega⟩⟩
end Go.Proofs.YtbeaheicjopooaaGreatDoor
