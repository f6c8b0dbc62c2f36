/- Plain functions: a text joined to an address; no condition. -/
import Derived.Test.YtbpijmmhgdemlaaGreatDoorPureG
namespace Go.Proofs.YtbpijmmhgdemlaaGreatDoor
/-- Behind the last slash of a text. -/
def lastN : List UInt8 → Nat
  | [] => 0
  | b :: l => if lastN l = 0 then (if b = 47 then 1 else 0) else lastN l + 1
theorem lastN_le (l : List UInt8) : lastN l ≤ l.length := by
  induction l with
  | nil => simp [lastN]
  | cons b l ih =>
    simp only [lastN, List.length_cons]
    repeat' split
    all_goals omega
theorem lastN_snoc (l : List UInt8) (b : UInt8) : lastN (l ++ [b]) = if b = 47 then l.length + 1 else lastN l := by
  induction l with
  | nil => by_cases h : b = 47 <;> simp [lastN, h]
  | cons x l ih =>
    rw [List.cons_append]
    simp only [lastN, ih]
    by_cases h : b = 47
    · simp [h]
    · simp [h]
theorem lastN_take (l : List UInt8) (k : Nat) (h : k < l.length) : lastN (l.take (k + 1)) = if l[k] = 47 then k + 1 else lastN (l.take k) := by
  rw [List.take_succ_eq_append_getElem h, lastN_snoc]
  simp only [List.length_take, Nat.min_eq_left (Nat.le_of_lt h)]
theorem lastN_zero (l : List UInt8) : lastN l = 0 ↔ (47 : UInt8) ∉ l := by
  induction l with
  | nil => simp [lastN]
  | cons b l ih =>
    simp only [lastN, List.mem_cons, not_or]
    by_cases h : lastN l = 0
    · rw [if_pos h]
      by_cases hb : b = 47
      · simp [hb]
      · simp [hb, ih.1 h, Ne.symm hb]
    · rw [if_neg h]
      constructor
      · intro e; omega
      · rintro ⟨_, h2⟩
        exact absurd (ih.2 h2) h
/-- A text up to its last slash. -/
def folderL (l : List UInt8) : List UInt8 := l.take (lastN l)
theorem folderL_cons (b : UInt8) (l : List UInt8) : folderL (b :: l) = if lastN l = 0 then (if b = 47 then [47] else []) else b :: folderL l := by
  unfold folderL
  simp only [lastN]
  by_cases h : lastN l = 0
  · rw [if_pos h, if_pos h]
    by_cases hb : b = 47
    · rw [if_pos hb, if_pos hb, hb]; rfl
    · rw [if_neg hb, if_neg hb]; rfl
  · rw [if_neg h, if_neg h, List.take_succ_cons]
theorem folderL_slash (l : List UInt8) : folderL (47 :: l) = 47 :: folderL l := by
  rw [folderL_cons]
  by_cases h : lastN l = 0
  · rw [if_pos h, if_pos rfl]
    simp [folderL, h]
  · rw [if_neg h]
theorem lastN_folder (l : List UInt8) : lastN (folderL l) = lastN l := by
  induction l with
  | nil => rfl
  | cons b l ih =>
    rw [folderL_cons]
    by_cases h : lastN l = 0
    · rw [if_pos h]
      by_cases hb : b = 47
      · rw [if_pos hb, hb]; simp [lastN, h]
      · rw [if_neg hb]; simp [lastN, h, hb]
    · rw [if_neg h]
      simp only [lastN, ih]
theorem folderL_twice (l : List UInt8) : folderL (folderL l) = folderL l := by
  show (folderL l).take (lastN (folderL l)) = _
  rw [lastN_folder, folderL, List.take_take, Nat.min_self]
theorem splitC_folder (l : List UInt8) : splitC 47 (folderL l) = (splitC 47 l).dropLast ++ [[]] := by
  induction l with
  | nil => rfl
  | cons b l ih =>
    by_cases hb : b = 47
    · subst hb
      rw [folderL_slash]
      simp only [splitC, if_true, ih]
      rw [List.dropLast_cons_of_ne_nil (splitC_ne 47 l)]
      rfl
    · rw [folderL_cons]
      by_cases h : lastN l = 0
      · rw [if_pos h, if_neg hb]
        simp only [splitC, if_neg hb, splitC_whole 47 l ((lastN_zero l).1 h)]
        rfl
      · rw [if_neg h]
        simp only [splitC, if_neg hb, ih]
        cases hs : splitC 47 l with
        | nil => exact absurd hs (splitC_ne 47 l)
        | cons x xs =>
          cases xs with
          | nil =>
            exfalso
            have hj := join_splitC 47 l
            rw [hs, Lib.join_one] at hj
            exact h ((lastN_zero l).2 (by rw [← hj]; exact splitC_no 47 l x (by rw [hs]; simp)))
          | cons y ys => simp
/-- An address' folder. -/
def folderU (u : URL) : URL := { u with path := folderL u.path, query := [] }
theorem folder_right (u : URL) (h : checkB u = true) (ho : u.opq = false) : checkB (folderU u) = true := by
  obtain ⟨r, hr⟩ := path_head u h ho
  have hle := lastN_le u.path
  have ht : (textL (folderU u)).length ≤ (textL u).length := by
    rw [textL_front u ho, textL_front (folderU u) ho]
    show (frontT u.sch u.host u.port ++ (folderL u.path ++ [])).length ≤ _
    unfold folderL
    simp
    omega
  obtain ⟨h1, h2, h3, h4, h5⟩ := checkB_parts u h
  obtain ⟨a1, a2, a3, a4, a5, a6, a7, a8⟩ := h5 ho
  have b5 : allB pathByte (folderL u.path) = true := (allB_iff pathByte _).2 fun b hb => (allB_iff pathByte _).1 a5 b (List.mem_of_mem_take hb)
  have b7 : cleanL (folderL u.path) = folderL u.path := by
    rw [hr] at a7 ⊢
    rw [folderL_slash]
    refine (cleanL_iff_same _).2 fun p hp => ?_
    rw [splitC_folder] at hp
    rcases List.mem_append.1 hp with hp | hp
    · exact (cleanL_iff_same r).1 a7 p ((List.dropLast_sublist _).subset hp)
    · rw [List.mem_singleton.1 hp]; simp [stays]
  have b6 : folderL u.path ≠ [] := by rw [hr, folderL_slash]; simp
  unfold checkB
  simp only [Bool.and_eq_true, decide_eq_true_eq]
  refine ⟨⟨⟨h1, (by rw [beq_iff_eq]; exact h2 : (u.opq == (defPort u.sch == 0)) = true)⟩, ?_⟩, Nat.le_trans ht h3⟩
  rw [if_neg (by show ¬ u.opq = true; rw [ho]; decide)]
  simp only [Bool.and_eq_true, decide_eq_true_eq]
  exact ⟨⟨⟨⟨⟨⟨⟨a1, a2⟩, a3⟩, bne_iff_ne.2 a4⟩, b5⟩, bne_iff_ne.2 b6⟩, beq_iff_eq.2 b7⟩, by simp [folderU]⟩
/-- The kind of a text that is joined. -/
def kindL (ref : List UInt8) : Int :=
  if restL (trimL ref) [58] ≠ [] ∧ schemeB (lowerL (frontL (trimL ref) [58])) = true then 1
  else if Lib.hasPrefix (trimL ref) [47, 47] then 2
  else if Lib.hasPrefix (trimL ref) [47] then 3
  else if trimL ref = [] ∨ Lib.hasPrefix (trimL ref) [35] then 4
  else if Lib.hasPrefix (trimL ref) [63] then 5
  else 6
theorem kindL_trim (s t : List UInt8) (h : trimL s = trimL t) : kindL s = kindL t := by unfold kindL; rw [h]
theorem kindL_bounds (s : List UInt8) : 1 ≤ kindL s ∧ kindL s ≤ 6 := by
  unfold kindL
  repeat' split
  all_goals omega
/-- The text that is parsed. -/
def joinT (base : URL) (k : Int) (r : List UInt8) : List UInt8 :=
  if k = 2 then base.sch ++ [58] ++ r
  else if k = 3 then frontT base.sch base.host base.port ++ r
  else if k = 5 then frontT base.sch base.host base.port ++ base.path ++ r
  else if k = 6 then frontT base.sch base.host base.port ++ folderL base.path ++ r
  else textL base
/-- May something be joined to an address? -/
def baseOk (u : URL) : Bool := checkB u && !u.opq
def joinU (base : URL) (ref : List UInt8) : URL :=
  if kindL ref = 1 then parseU ref else if baseOk base then parseU (joinT base (kindL ref) (frontL (trimL ref) [35])) else zeroU
def joinE (base : URL) (ref : List UInt8) : Int :=
  if kindL ref = 1 then parseE ref else if baseOk base then parseE (joinT base (kindL ref) (frontL (trimL ref) [35])) else 51
theorem isSch_eq (s : List UInt8) : (defPort s != 0 || checkB ⟨true, s, [], 0, [], []⟩) = schemeB s := by
  by_cases h : defPort s = 0
  · have hb : (defPort s != 0) = false := by simp [h]
    rw [hb, Bool.false_or]
    cases hs : schemeB s
    · unfold checkB
      show (schemeB s && _ && _ && _) = false
      rw [hs]
      rfl
    · have hl := (schemeB_all s hs).2.2
      unfold checkB
      simp only [hs, h]
      rw [show textL ⟨true, s, [], 0, [], []⟩ = s ++ [58] ++ [] from rfl]
      simp [allB, trimL, Lib.trimS, Lib.trimLeftS, Lib.trimRightS]
      omega
  · have hb : (defPort s != 0) = true := by simp [h]
    rw [hb, Bool.true_or]
    unfold defPort at h
    split at h
    · rename_i h1
      rcases h1 with rfl | rfl <;> decide +kernel
    · split at h
      · rename_i h1
        rcases h1 with rfl | rfl <;> decide +kernel
      · exact absurd rfl h
theorem joinU_trim (b : URL) (s t : List UInt8) (h : trimL s = trimL t) : joinU b s = joinU b t ∧ joinE b s = joinE b t := by
  obtain ⟨h1, h2⟩ := parseU_trim s t h
  unfold joinU joinE
  rw [kindL_trim s t h, h, h1, h2]
  exact ⟨rfl, rfl⟩
/-- Blanks around a text play no part. -/
theorem joinU_blanks (b : URL) (s : List UInt8) : joinU b ([32] ++ s ++ [10]) = joinU b s ∧ joinE b ([32] ++ s ++ [10]) = joinE b s :=
  joinU_trim b _ _ (by rw [trimL_behind _ [10] (by decide), trimL_ahead [32] s (by decide)])
theorem kindL_text (u : URL) (h : checkB u = true) : kindL (textL u) = 1 := by
  obtain ⟨h1, h2, h3, h4, h5⟩ := checkB_parts u h
  obtain ⟨_, _, ht⟩ := parse_text u h
  obtain ⟨sa, sn, _⟩ := schemeB_all _ h1
  have e : ∃ x, textL u = u.sch ++ 58 :: x := by
    cases ho : u.opq
    · rw [textL_front u ho]
      exact ⟨47 :: 47 :: (u.host ++ portT u.port ++ (u.path ++ u.query)), by simp [frontT]⟩
    · exact ⟨_, textL_back u ho⟩
  obtain ⟨x, hx⟩ := e
  obtain ⟨f1, f2⟩ := frontL_one u.sch x 58 (allB_not schByte _ 58 (by decide) sa)
  unfold kindL
  rw [ht, hx, f1, f2, low_of schByte schByte_small _ sa, if_pos ⟨by simp, h1⟩]
theorem parseE_zero (s : List UInt8) : parseE s = 0 ↔ parseB s = true := by
  unfold parseE
  cases parseB s <;> simp
theorem joinE_right (b : URL) (s : List UInt8) (h : joinE b s = 0) : checkB (joinU b s) = true := by
  unfold joinE at h
  unfold joinU
  split at h
  · rename_i hk
    rw [if_pos hk]
    exact parseU_right s ((parseE_zero s).1 h)
  · rename_i hk
    rw [if_neg hk]
    split at h
    · rename_i ho
      rw [if_pos ho]
      exact parseU_right _ ((parseE_zero _).1 h)
    · cases h
theorem joinE_wrong (b : URL) (s : List UInt8) (h : joinE b s ≠ 0) : joinU b s = zeroU := by
  have hp : ∀ t, parseE t ≠ 0 → parseU t = zeroU := fun t ht => by
    unfold parseE at ht
    unfold parseU
    split at ht
    · exact absurd rfl ht
    · rename_i hx; rw [if_neg hx]
  unfold joinE at h
  unfold joinU
  split at h
  · rename_i hk
    rw [if_pos hk]
    exact hp s h
  · rename_i hk
    rw [if_neg hk]
    split at h
    · rename_i ho
      rw [if_pos ho]
      exact hp _ h
    · rename_i ho
      rw [if_neg ho]
/-- What was joined, joined again, is the same. -/
theorem join_again (other : URL) (u : URL) (h : checkB u = true) : joinU other (textL u) = u ∧ joinE other (textL u) = 0 := by
  obtain ⟨p1, p2, _⟩ := parse_text u h
  unfold joinU joinE
  rw [kindL_text u h, if_pos rfl, if_pos rfl]
  exact ⟨p2, (parseE_zero _).2 p1⟩
/-- What is joined to an address is joined to its folder's in the same way. -/
theorem join_folder (b : URL) (s : List UInt8) (hb : checkB b = true) (ho : b.opq = false) (hk : kindL s = 6) : joinU (folderU b) s = joinU b s ∧ joinE (folderU b) s = joinE b s := by
  have hf := folder_right b hb ho
  have o1 : baseOk b = true := by unfold baseOk; rw [hb, ho]; rfl
  have o2 : baseOk (folderU b) = true := by
    unfold baseOk
    rw [hf]
    show (true && !b.opq) = true
    rw [ho]
    rfl
  have ht : joinT (folderU b) 6 (frontL (trimL s) [35]) = joinT b 6 (frontL (trimL s) [35]) := by
    unfold joinT
    simp only [show ¬ (6 : Int) = 2 by decide, show ¬ (6 : Int) = 3 by decide, show ¬ (6 : Int) = 5 by decide, if_false, if_true]
    show frontT b.sch b.host b.port ++ folderL (folderL b.path) ++ _ = _
    rw [folderL_twice]
  unfold joinU joinE
  rw [hk]
  simp only [show ¬ (6 : Int) = 1 by decide, if_false, o1, o2, if_true, ht]
  exact ⟨trivial, trivial⟩
theorem frontL_not (l : List UInt8) (c : UInt8) : c ∉ frontL l [c] := by
  unfold frontL
  induction l with
  | nil => simp
  | cons b l ih =>
    rw [List.takeWhile_cons]
    split
    · rename_i hb
      simp only [List.mem_cons, not_or]
      refine ⟨fun e => ?_, ih⟩
      subst e
      simp at hb
    · simp
/-- A text that begins with the address' front has its scheme, host and port. -/
theorem parse_front (sch host Y : List UInt8) (n : Int) (hs : schemeB sch = true) (hd : defPort sch ≠ 0) (hh : hostB host = true) (h0 : 0 ≤ n) (h1 : n ≤ 65535) (hn : n ≠ defPort sch)
    (hY : Y = [] ∨ ∃ c r, Y = c :: r ∧ c ∈ ([47, 63] : List UInt8)) (h35 : (35 : UInt8) ∉ Y) (hp : parseB (frontT sch host n ++ Y) = true) :
    (parseU (frontT sch host n ++ Y)).opq = false ∧ (parseU (frontT sch host n ++ Y)).sch = sch ∧ (parseU (frontT sch host n ++ Y)).host = host ∧ (parseU (frontT sch host n ++ Y)).port = n := by
  have hF := frontT_bytes sch host n hs hh h0
  have htr : trimL (frontT sch host n ++ Y) = frontT sch host n ++ (Y.reverse.dropWhile isBl).reverse := by
    rw [trimL_eq, List.reverse_append, dropWhile_split]
    have hFr : (frontT sch host n).reverse.dropWhile isBl = (frontT sch host n).reverse := by
      cases e : (frontT sch host n).reverse with
      | nil => rfl
      | cons x xs => exact dropWhile_id isBl x xs (textByte_bl x (hF x (List.mem_reverse.1 (by rw [e]; simp))))
    obtain ⟨x, xs, hx⟩ : ∃ x xs, frontT sch host n = x :: xs := by
      cases e : frontT sch host n with
      | nil => exact absurd e (frontT_ne _ _ _)
      | cons x xs => exact ⟨x, xs, rfl⟩
    have hx0 : isBl x = false := textByte_bl x (hF x (by rw [hx]; simp))
    split
    · rename_i e
      rw [hFr, e, List.reverse_reverse, hx]
      simpa using dropWhile_id isBl x xs hx0
    · rw [List.reverse_append, List.reverse_reverse, hx]
      exact dropWhile_id isBl x _ hx0
  have hY2 : (Y.reverse.dropWhile isBl).reverse = [] ∨ ∃ c r, (Y.reverse.dropWhile isBl).reverse = c :: r ∧ c ∈ ([47, 63] : List UInt8) := by
    rcases hY with rfl | ⟨c, r, rfl, hc⟩
    · exact .inl rfl
    · right
      rw [List.reverse_cons, dropWhile_split]
      have hcb : isBl c = false := by
        simp only [List.mem_cons, List.not_mem_nil, or_false] at hc
        rcases hc with rfl | rfl <;> decide
      split
      · rw [dropWhile_id isBl c [] hcb]
        exact ⟨c, [], rfl, hc⟩
      · rw [List.reverse_append]
        exact ⟨c, _, rfl, hc⟩
  have h352 : (35 : UInt8) ∉ frontT sch host n ++ (Y.reverse.dropWhile isBl).reverse := by
    intro hm
    rcases List.mem_append.1 hm with hm | hm
    · exact no_hash _ hF hm
    · exact h35 (List.mem_reverse.1 ((List.dropWhile_sublist _).subset (List.mem_reverse.1 hm)))
  have hfr : frontL (trimL (frontT sch host n ++ Y)) [35] = frontT sch host n ++ (Y.reverse.dropWhile isBl).reverse := by
    rw [htr, (frontL_none _ _ (not_one h352)).1]
  obtain ⟨k1, _⟩ := raw_ranked (frontT sch host n ++ Y) sch host _ n hs hd hh h0 h1 hn hY2 hfr
  unfold parseU
  rw [if_pos hp, k1]
  exact ⟨rfl, rfl, rfl, rfl⟩
/-- A text of the kinds 3 to 6 leaves scheme, host and port. -/
theorem join_keeps (b : URL) (s : List UInt8) (he : joinE b s = 0) (hk : 3 ≤ kindL s) :
    (joinU b s).opq = false ∧ (joinU b s).sch = b.sch ∧ (joinU b s).host = b.host ∧ (joinU b s).port = b.port := by
  have hk6 := (kindL_bounds s).2
  have h35 : (35 : UInt8) ∉ frontL (trimL s) [35] := frontL_not _ _
  unfold joinE at he
  rw [if_neg (by omega)] at he
  unfold joinU
  rw [if_neg (by omega)]
  split at he
  · rename_i ho
    rw [if_pos ho]
    have hp := (parseE_zero _).1 he
    unfold baseOk at ho
    rw [Bool.and_eq_true] at ho
    obtain ⟨hb, ho⟩ := ho
    replace ho : b.opq = false := by simpa using ho
    obtain ⟨h1, h2, h3, h4, h5⟩ := checkB_parts b hb
    obtain ⟨a1, a2, a3, a4, a5, a6, a7, a8⟩ := h5 ho
    obtain ⟨pb, qb⟩ := ranked_bytes b hb ho
    obtain ⟨r, hr⟩ := path_head b hb ho
    have hd : defPort b.sch ≠ 0 := by
      intro e
      rw [e, ho] at h2
      cases h2
    have key : ∀ Y, (Y = [] ∨ ∃ c r, Y = c :: r ∧ c ∈ ([47, 63] : List UInt8)) → (35 : UInt8) ∉ Y → joinT b (kindL s) (frontL (trimL s) [35]) = frontT b.sch b.host b.port ++ Y →
        (parseU (joinT b (kindL s) (frontL (trimL s) [35]))).opq = false ∧ (parseU (joinT b (kindL s) (frontL (trimL s) [35]))).sch = b.sch ∧ (parseU (joinT b (kindL s) (frontL (trimL s) [35]))).host = b.host ∧ (parseU (joinT b (kindL s) (frontL (trimL s) [35]))).port = b.port := by
      intro Y hY hY35 hj
      rw [hj] at hp ⊢
      exact parse_front b.sch b.host Y b.port h1 hd a1 a2 a3 a4 hY hY35 hp
    have hpath : (35 : UInt8) ∉ b.path := no_hash _ pb
    have hq : (35 : UInt8) ∉ b.query := no_hash _ qb
    have cases4 : kindL s = 3 ∨ kindL s = 4 ∨ kindL s = 5 ∨ kindL s = 6 := by omega
    rcases cases4 with e | e | e | e
    · refine key (frontL (trimL s) [35]) ?_ h35 (by rw [e]; rfl)
      have hpre : Lib.hasPrefix (trimL s) [47] = true := by
        unfold kindL at e
        repeat' split at e
        all_goals first | assumption | omega
      cases ht : trimL s with
      | nil => rw [ht] at hpre; simp [Lib.hasPrefix] at hpre
      | cons x xs =>
        rw [ht] at hpre
        simp [Lib.hasPrefix] at hpre
        subst hpre
        right
        exact ⟨47, _, List.takeWhile_cons_of_pos (by decide), by simp⟩
    · refine key (b.path ++ b.query) (.inr ⟨47, r ++ b.query, by rw [hr]; rfl, by simp⟩) (by simp [hpath, hq]) ?_
      rw [e]
      exact textL_front b ho
    · refine key (b.path ++ frontL (trimL s) [35]) (.inr ⟨47, r ++ frontL (trimL s) [35], by rw [hr]; rfl, by simp⟩) (by simp [hpath, h35]) ?_
      rw [e]
      show frontT b.sch b.host b.port ++ b.path ++ _ = _
      rw [List.append_assoc]
    · refine key (folderL b.path ++ frontL (trimL s) [35]) (.inr ⟨47, folderL r ++ frontL (trimL s) [35], by rw [hr, folderL_slash]; rfl, by simp⟩) ?_ ?_
      · intro hm
        rcases List.mem_append.1 hm with hm | hm
        · exact hpath (List.mem_of_mem_take hm)
        · exact h35 hm
      · rw [e]
        show frontT b.sch b.host b.port ++ folderL b.path ++ _ = _
        rw [List.append_assoc]
  · cases he
end Go.Proofs.YtbpijmmhgdemlaaGreatDoor
