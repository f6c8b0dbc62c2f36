/- Plain functions: an address' text is parsed as it; no condition. -/
import Derived.Test.YtbpijmmhgdemlaaGreatDoorPureF
import Derived.Lib.ItoaNum
namespace Go.Proofs.YtbpijmmhgdemlaaGreatDoor
theorem allB_not (p : Int → Bool) (l : List UInt8) (k : UInt8) (hp : p k.toNat = false) (h : allB p l = true) : k ∉ l := fun hm => by
  have := (allB_iff p l).1 h k hm
  rw [hp] at this
  cases this
theorem allB_imp {p q : Int → Bool} (l : List UInt8) (hpq : ∀ c : Int, p c = true → q c = true) (h : allB p l = true) : allB q l = true :=
  (allB_iff q l).2 fun b hb => hpq _ ((allB_iff p l).1 h b hb)
theorem frontL_first (a r s : List UInt8) (c : UInt8) (ha : ∀ b ∈ a, b ∉ s) (hc : c ∈ s) : frontL (a ++ c :: r) s = a ∧ restL (a ++ c :: r) s = c :: r := by
  have h := span_at (fun b => !s.contains b) (a ++ c :: r) a.length (by simp) (fun j hj hja => by
    rw [List.getElem_append_left hja]
    simpa using ha _ (List.getElem_mem hja)) (by simpa using hc)
  unfold frontL restL
  rw [h.1, h.2]
  simp
theorem frontL_none (a s : List UInt8) (ha : ∀ b ∈ a, b ∉ s) : frontL a s = a ∧ restL a s = [] :=
  span_none (fun b => !s.contains b) a (fun j hj => by simpa using ha _ (List.getElem_mem hj))
theorem not_one {l : List UInt8} {c : UInt8} (h : c ∉ l) : ∀ b ∈ l, b ∉ [c] := fun b hb e => h (by rw [List.mem_singleton] at e; rwa [← e])
theorem frontL_one (a r : List UInt8) (c : UInt8) (ha : c ∉ a) : frontL (a ++ c :: r) [c] = a ∧ restL (a ++ c :: r) [c] = c :: r :=
  frontL_first a r [c] c (not_one ha) (by simp)

/-! ### digits -/
theorem dec_step {u : Nat} (h : ¬ u < 10) : Lib.decDigits u = Lib.decDigits (u / 10) ++ [UInt8.ofNat (48 + u % 10)] := by
  rw [Lib.decDigits, dif_neg h]
theorem dig_toNat (k : Nat) (h : k < 10) : (UInt8.ofNat (48 + k)).toNat = 48 + k := by
  rw [UInt8.toNat_ofNat_of_lt' (by show 48 + k < 256; omega)]
theorem digitsL_snoc (l : List UInt8) (b : UInt8) : digitsL (l ++ [b]) = digitsL l * 10 + (b.toNat - 48) := by
  unfold digitsL
  rw [List.foldl_append]
  rfl
theorem dec_digits (u : Nat) : digitsL (Lib.decDigits u) = u ∧ allB isDigit (Lib.decDigits u) = true := by
  induction u using Nat.strongRecOn with
  | _ u ih =>
    by_cases h : u < 10
    · rw [Lib.decDigits_one h]
      have hd := dig_toNat u h
      refine ⟨?_, ?_⟩
      · show 0 * 10 + ((UInt8.ofNat (48 + u)).toNat - 48) = u
        rw [hd]
        omega
      · simp only [allB, Bool.and_true]
        rw [hd]
        simp [isDigit]
        omega
    · have hu := ih (u / 10) (by omega)
      have hd := dig_toNat (u % 10) (by omega)
      rw [dec_step h, digitsL_snoc, hu.1, allB_snoc, hu.2, hd]
      refine ⟨by omega, ?_⟩
      simp [isDigit]
      omega
theorem nd_le (k : Nat) : ∀ u : Nat, u < 10 ^ (k + 1) → Lib.nDigits u ≤ k + 1 := by
  induction k with
  | zero => intro u h; rw [Lib.nDigits_small (by omega)]; omega
  | succ k ih =>
    intro u h
    by_cases hs : u < 10
    · rw [Lib.nDigits_small hs]; omega
    · rw [Lib.nDigits_big hs]
      have := ih (u / 10) (by rw [Nat.pow_succ] at h; omega)
      omega
theorem itoa_nat (n : Int) (h : 0 ≤ n) : Lib.itoa n = Lib.decDigits n.toNat := by
  unfold Lib.itoa
  rw [if_neg (by omega)]
/-- What stands of a port in a text. -/
def portT (n : Int) : List UInt8 := if n = 0 then [] else [58] ++ Lib.itoa n
theorem portT_port (n : Int) (h0 : 0 ≤ n) (h1 : n ≤ 65535) : portL (portT n) = n := by
  unfold portT
  by_cases h : n = 0
  · rw [if_pos h, h]; rfl
  · rw [if_neg h, itoa_nat n h0]
    obtain ⟨d1, d2⟩ := dec_digits n.toNat
    have hl := Lib.decDigits_length n.toNat
    have hp := Lib.nDigits_pos n.toNat
    have hn := nd_le 4 n.toNat (by omega)
    unfold portL
    rw [if_neg (by simp), if_neg (by simp [d2]; omega)]
    simp [d1]
    omega
theorem portT_bytes (n : Int) (h0 : 0 ≤ n) : ∀ b ∈ portT n, b = 58 ∨ isDigit (b.toNat : Int) = true := by
  intro b hb
  unfold portT at hb
  split at hb
  · cases hb
  · rcases List.mem_append.1 hb with hb | hb
    · left; simpa using hb
    · right
      rw [itoa_nat n h0] at hb
      exact (allB_iff isDigit _).1 (dec_digits n.toNat).2 b hb
/-- What stands ahead of the path. -/
def frontT (sch host : List UInt8) (n : Int) : List UInt8 := sch ++ 58 :: 47 :: 47 :: (host ++ portT n)
theorem textL_front (u : URL) (h : u.opq = false) : textL u = frontT u.sch u.host u.port ++ (u.path ++ u.query) := by
  unfold textL frontT portT
  rw [h]
  simp
theorem textL_back (u : URL) (h : u.opq = true) : textL u = u.sch ++ 58 :: u.path := by
  unfold textL
  rw [h]
  simp
theorem raw_ranked (s sch host X : List UInt8) (n : Int) (hs : schemeB sch = true) (hd : defPort sch ≠ 0) (hh : hostB host = true) (h0 : 0 ≤ n) (h1 : n ≤ 65535) (hn : n ≠ defPort sch)
    (hX : X = [] ∨ ∃ c r, X = c :: r ∧ c ∈ ([47, 63] : List UInt8)) (hf : frontL (trimL s) [35] = frontT sch host n ++ X) :
    rawU s = ⟨false, sch, host, n, cleanL (if frontL X [63] = [] then [47] else frontL X [63]), restL X [63]⟩ ∧ restL (frontL (trimL s) [35]) [58] ≠ [] := by
  obtain ⟨sa, _, _⟩ := schemeB_all sch hs
  obtain ⟨ha, _, _⟩ := hostB_all host hh
  have e1 : frontT sch host n ++ X = sch ++ 58 :: (47 :: 47 :: (host ++ portT n ++ X)) := by simp [frontT]
  obtain ⟨f1, f2⟩ := frontL_one sch (47 :: 47 :: (host ++ portT n ++ X)) 58 (allB_not schByte sch 58 (by decide) sa)
  have hlow := low_of schByte schByte_small sch sa
  have hlow2 := low_of hostByte hostByte_small host ha
  have hp0 : ∀ b ∈ portT n, b ∉ ([47, 63] : List UInt8) := fun b hb hm => by
    rcases portT_bytes n h0 b hb with rfl | hx
    · simp at hm
    · simp only [List.mem_cons, List.not_mem_nil, or_false] at hm
      rcases hm with rfl | rfl <;> simp [isDigit] at hx
  have hh0 : ∀ b ∈ host, b ∉ ([47, 63] : List UInt8) := fun b hb hm => by
    have hx := (allB_iff hostByte host).1 ha b hb
    simp only [List.mem_cons, List.not_mem_nil, or_false] at hm
    rcases hm with rfl | rfl <;> simp [hostByte, isLetter, isDigit] at hx
  have hhp : ∀ b ∈ host ++ portT n, b ∉ ([47, 63] : List UInt8) := fun b hb => by
    rcases List.mem_append.1 hb with hb | hb
    · exact hh0 b hb
    · exact hp0 b hb
  have g : frontL (host ++ portT n ++ X) [47, 63] = host ++ portT n ∧ restL (host ++ portT n ++ X) [47, 63] = X := by
    rcases hX with rfl | ⟨c, r, rfl, hc⟩
    · rw [List.append_nil]; exact frontL_none _ _ hhp
    · exact frontL_first _ r _ c hhp hc
  have k : frontL (host ++ portT n) [58] = host ∧ restL (host ++ portT n) [58] = portT n := by
    have h58 : (58 : UInt8) ∉ host := allB_not hostByte host 58 (by decide) ha
    unfold portT
    split
    · rw [List.append_nil]; exact frontL_none _ _ (not_one h58)
    · exact frontL_one host (Lib.itoa n) 58 h58
  refine ⟨?_, by rw [hf, e1, f2]; simp⟩
  unfold rawU
  rw [hf, e1, f1, f2, hlow, if_neg hd]
  show rankedL sch (47 :: 47 :: (host ++ portT n ++ X)) = _
  unfold rankedL
  rw [if_pos (by simp [Lib.hasPrefix])]
  show (⟨false, sch, lowerL (frontL (frontL (host ++ portT n ++ X) [47, 63]) [58]), _, _, _⟩ : URL) = _
  simp only [List.drop_succ_cons, List.drop_zero]
  rw [g.1, g.2, k.1, k.2, hlow2, portT_port n h0 h1, if_neg hn]
/-- A byte of a ranked address' text. -/
def textByte (c : Int) : Bool := decide (32 < c) && decide (c < 127) && c != 35
theorem textByte_of (c : Int) (h : schByte c = true ∨ hostByte c = true ∨ pathByte c = true ∨ qryByte c = true ∨ isDigit c = true ∨ c = 58 ∨ c = 47 ∨ c = 63) : textByte c = true := by
  unfold textByte
  simp [schByte, hostByte, pathByte, qryByte, isLetter, isDigit] at h ⊢
  omega
theorem textByte_bl (b : UInt8) (h : textByte (b.toNat : Int) = true) : isBl b = false := by
  cases hb : isBl b
  · rfl
  · unfold isBl at hb
    simp only [List.contains_cons, List.contains_nil, Bool.or_false, Bool.or_eq_true, beq_iff_eq] at hb
    rcases hb with rfl | rfl | rfl | rfl | rfl <;> simp [textByte] at h
theorem frontT_bytes (sch host : List UInt8) (n : Int) (hs : schemeB sch = true) (hh : hostB host = true) (h0 : 0 ≤ n) : ∀ b ∈ frontT sch host n, textByte (b.toNat : Int) = true := by
  intro b hb
  unfold frontT at hb
  simp only [List.mem_append, List.mem_cons] at hb
  rcases hb with hb | rfl | rfl | rfl | hb | hb
  · exact textByte_of _ (.inl ((allB_iff schByte sch).1 (schemeB_all sch hs).1 b hb))
  · decide
  · decide
  · decide
  · exact textByte_of _ (.inr (.inl ((allB_iff hostByte host).1 (hostB_all host hh).1 b hb)))
  · rcases portT_bytes n h0 b hb with rfl | hx
    · decide
    · exact textByte_of _ (.inr (.inr (.inr (.inr (.inl hx)))))
theorem frontT_ne (sch host : List UInt8) (n : Int) : frontT sch host n ≠ [] := by
  unfold frontT
  simp
theorem no_hash (l : List UInt8) (h : ∀ b ∈ l, textByte (b.toNat : Int) = true) : (35 : UInt8) ∉ l := fun hm => by
  have := h 35 hm
  simp [textByte] at this
theorem trimL_text (l : List UInt8) (h : ∀ b ∈ l, textByte (b.toNat : Int) = true) : trimL l = l :=
  trimL_id l (fun b r e => textByte_bl b (h b (by rw [e]; simp))) (fun b r e => textByte_bl b (h b (by rw [e]; simp)))
theorem ranked_bytes (u : URL) (h : checkB u = true) (ho : u.opq = false) : (∀ b ∈ u.path, textByte (b.toNat : Int) = true) ∧ (∀ b ∈ u.query, textByte (b.toNat : Int) = true) := by
  obtain ⟨h1, h2, h3, h4, h5⟩ := checkB_parts u h
  obtain ⟨a1, a2, a3, a4, a5, a6, a7, a8⟩ := h5 ho
  refine ⟨fun b hb => textByte_of _ (.inr (.inr (.inl ((allB_iff pathByte _).1 a5 b hb)))), fun b hb => ?_⟩
  rcases a8 with a8 | ⟨q, a8, a9⟩
  · rw [a8] at hb; cases hb
  · rw [a8] at hb
    rcases List.mem_cons.1 hb with rfl | hb
    · decide
    · exact textByte_of _ (.inr (.inr (.inr (.inl ((allB_iff qryByte _).1 a9 b hb)))))
theorem path_head (u : URL) (h : checkB u = true) (ho : u.opq = false) : ∃ r, u.path = 47 :: r := by
  obtain ⟨h1, h2, h3, h4, h5⟩ := checkB_parts u h
  obtain ⟨a1, a2, a3, a4, a5, a6, a7, a8⟩ := h5 ho
  cases hp : u.path with
  | nil => exact absurd hp a6
  | cons b r =>
    rw [hp] at a7
    by_cases hb : b = 47
    · exact ⟨r, by rw [hb]⟩
    · rw [cleanL_other b r hb] at a7
      cases a7
/-- An address' text is parsed as it. -/
theorem parse_text (u : URL) (h : checkB u = true) : parseB (textL u) = true ∧ parseU (textL u) = u ∧ trimL (textL u) = textL u := by
  obtain ⟨h1, h2, h3, h4, h5⟩ := checkB_parts u h
  obtain ⟨sa, sn, _⟩ := schemeB_all _ h1
  suffices hh : rawU (textL u) = u ∧ restL (frontL (trimL (textL u)) [35]) [58] ≠ [] ∧ trimL (textL u) = textL u by
    have hb : parseB (textL u) = true := by
      unfold parseB
      rw [hh.1, h, Bool.and_true]
      simpa using hh.2.1
    exact ⟨hb, by unfold parseU; rw [if_pos hb]; exact hh.1, hh.2.2⟩
  cases ho : u.opq
  · obtain ⟨a1, a2, a3, a4, a5, a6, a7, a8⟩ := h5 ho
    obtain ⟨pb, qb⟩ := ranked_bytes u h ho
    obtain ⟨r, hr⟩ := path_head u h ho
    have hd : defPort u.sch ≠ 0 := by
      intro e
      rw [e, ho] at h2
      cases h2
    have htb : ∀ b ∈ textL u, textByte (b.toNat : Int) = true := by
      rw [textL_front u ho]
      intro b hb
      simp only [List.mem_append] at hb
      rcases hb with hb | hb | hb
      · exact frontT_bytes _ _ _ h1 a1 a2 b hb
      · exact pb b hb
      · exact qb b hb
    have htr := trimL_text _ htb
    have hfr : frontL (trimL (textL u)) [35] = frontT u.sch u.host u.port ++ (u.path ++ u.query) := by
      rw [htr, (frontL_none _ _ (not_one (no_hash _ htb))).1, textL_front u ho]
    obtain ⟨k1, k2⟩ := raw_ranked (textL u) u.sch u.host (u.path ++ u.query) u.port h1 hd a1 a2 a3 a4 (.inr ⟨47, r ++ u.query, by rw [hr]; rfl, by simp⟩) hfr
    have h63 : (63 : UInt8) ∉ u.path := allB_not pathByte _ 63 (by decide) a5
    have hq : frontL (u.path ++ u.query) [63] = u.path ∧ restL (u.path ++ u.query) [63] = u.query := by
      rcases a8 with a8 | ⟨q, a8, _⟩
      · rw [a8, List.append_nil]; exact frontL_none _ _ (not_one h63)
      · rw [a8]; exact frontL_one _ q 63 h63
    refine ⟨?_, k2, htr⟩
    rw [k1, hq.1, hq.2, if_neg a6, a7]
    cases u
    simp only at ho
    rw [ho]
  · obtain ⟨b1, b2, b3, b4, b5⟩ := h4 ho
    have hd : defPort u.sch = 0 := by
      rw [ho] at h2
      simpa using h2.symm
    have hsb : ∀ b ∈ u.sch, textByte (b.toNat : Int) = true := fun b hb => textByte_of _ (.inl ((allB_iff schByte _).1 sa b hb))
    have htr : trimL (textL u) = textL u := by
      rw [textL_back u ho]
      refine trimL_id _ (fun b r e => ?_) (fun b r e => ?_)
      · cases hs : u.sch with
        | nil => exact absurd hs sn
        | cons x xs =>
          rw [hs] at e
          cases e
          exact textByte_bl _ (hsb _ (by rw [hs]; simp))
      · rcases List.eq_nil_or_concat u.path with hp | ⟨ys, y, hp⟩
        · rw [hp] at e
          have := (List.append_inj' e rfl).2
          cases this
          decide
        · rw [hp, List.concat_eq_append, ← List.cons_append, ← List.append_assoc] at e
          have e2 := (List.append_inj' e rfl).2
          cases e2
          exact (trimL_ends u.path b4).2 _ ys (by rw [hp, List.concat_eq_append])
    have h35 : (35 : UInt8) ∉ textL u := by
      rw [textL_back u ho]
      intro hm
      rcases List.mem_append.1 hm with hm | hm
      · exact allB_not schByte _ 35 (by decide) sa hm
      · rcases List.mem_cons.1 hm with hm | hm
        · cases hm
        · exact allB_not opqByte _ 35 (by decide) b5 hm
    have hfr : frontL (trimL (textL u)) [35] = u.sch ++ 58 :: u.path := by
      rw [htr, (frontL_none _ _ (not_one h35)).1, textL_back u ho]
    obtain ⟨f1, f2⟩ := frontL_one u.sch u.path 58 (allB_not schByte _ 58 (by decide) sa)
    refine ⟨?_, by rw [hfr, f2]; simp, htr⟩
    unfold rawU
    rw [hfr, f1, f2, low_of schByte schByte_small _ sa, if_pos hd]
    simp only [List.drop_succ_cons, List.drop_zero, b4]
    cases u
    simp only at ho b1 b2 b3
    rw [ho, b1, b2, b3]
end Go.Proofs.YtbpijmmhgdemlaaGreatDoor
