/- What the library's functions on strings answer, over lists of bytes. -/
import Derived.Test.YtbeaheicjopooaaGreatDoorProg
import Derived.Test.YtbeaheicjopooaaGreatDoorEnv
import Derived.Test.YtbeaheicjopooaaGreatDoorPureG
import Derived.Test.YtbeaheicjopooaaGreatDoorShelf
import Derived.Lib.LastIndexByte
namespace Go.Proofs.YtbeaheicjopooaaGreatDoor
open Go.RowKit Go.Sort
theorem hasPre2_calls (l m : List UInt8) (w : World) :
    Calls Tryz.prog 47 #[.string ⟨l.toArray⟩, .string ⟨m.toArray⟩] w fun e w' => e = .returned (.bool (Lib.hasPrefix l m)) ∧ w = w' :=
  (Tryz.strings_HasPrefix ⟨l.toArray⟩ ⟨m.toArray⟩ w).mono fun _ _ ⟨he, hw⟩ => ⟨he, hw.symm⟩
theorem index_front (l : List UInt8) (c : UInt8) : Lib.index l [c] = anyAtL l [c] := by
  induction l with
  | nil => rfl
  | cons b l ih =>
    by_cases h : b = c
    · subst h
      rw [index_self]
      unfold anyAtL frontL restL
      simp
    · rw [index_other b c l h, ih]
      unfold anyAtL frontL restL
      have e : (![c].contains b) = true := by simpa using h
      rw [List.dropWhile_cons, if_pos e, List.takeWhile_cons, if_pos e]
      generalize List.dropWhile (fun b => ![c].contains b) l = d
      generalize List.takeWhile (fun b => ![c].contains b) l = k
      by_cases hr : d = []
      · rw [if_pos hr, if_pos hr, if_pos rfl]
      · rw [if_neg hr, if_neg hr, if_neg (by omega)]
        simp
theorem cut_one (l : List UInt8) (c : UInt8) : Lib.cut l [c] = (frontL l [c], (restL l [c]).drop 1, restL l [c] != []) := by
  unfold Lib.cut
  rw [index_front]
  by_cases h : 0 ≤ anyAtL l [c]
  · obtain ⟨h1, h2, h3⟩ := anyAtL_pos l [c] h
    have hr : restL l [c] ≠ [] := by
      intro e
      unfold anyAtL at h
      rw [if_pos e] at h
      omega
    have hb : (restL l [c] != []) = true := by simpa using hr
    rw [if_pos h, hb]
    rw [← h1]
    congr 1
    rw [h2, List.drop_drop]
    simp
  · obtain ⟨h1, h2⟩ := anyAtL_neg l [c] (by omega)
    rw [if_neg h, h1, h2]
    simp
theorem cut1_calls (l : List UInt8) (c : UInt8) (w : World) (hs : l.length ≤ 1000000) (hE : Env w) :
    Calls Tryz.prog 34 #[.string ⟨l.toArray⟩, .string ⟨#[c]⟩] w fun e w' => e = .returned (.tuple #[.string ⟨(frontL l [c]).toArray⟩, .string ⟨((restL l [c]).drop 1).toArray⟩, .bool (restL l [c] != [])]) ∧ Reach w w' := by
  obtain ⟨x, hx⟩ := hE.maxl
  refine (Tryz.strings_Cut ⟨l.toArray⟩ ⟨#[c]⟩ x w (by show l.length < _; omega) hx).mono fun e w' ⟨he, n, hw⟩ => ⟨?_, ?_⟩
  · rw [he]
    show Ending.returned (.tuple #[.string ⟨(Lib.cut l [c]).1.toArray⟩, .string ⟨(Lib.cut l [c]).2.1.toArray⟩, .bool (Lib.cut l [c]).2.2]) = _
    rw [cut_one]
  · rw [hw]
    exact Reach.drewN (Reach.refl w) n
theorem trimSuf_calls (l m : List UInt8) (w : World) (hs : l.length ≤ 1000000) :
    Calls Tryz.prog 36 #[.string ⟨l.toArray⟩, .string ⟨m.toArray⟩] w fun e w' => e = .returned (.string ⟨(Lib.trimSuffix l m).toArray⟩) ∧ w = w' :=
  (Tryz.strings_TrimSuffix ⟨l.toArray⟩ ⟨m.toArray⟩ w (by show l.length ≤ _; omega)).mono fun e w' ⟨he, hw⟩ => ⟨he, hw.symm⟩
theorem trimSuffix_own (a b : List UInt8) : Lib.trimSuffix (a ++ b) b = a := by
  unfold Lib.trimSuffix Lib.hasSuffix
  rw [if_pos (by simp)]
  simp
theorem lastIdx_list (l : List UInt8) (k : Nat) (h : k ≤ l.length) : Lib.lastIdx ⟨l.toArray⟩ 47 k = (lastN (l.take k) : Int) - 1 := by
  induction k with
  | zero => simp [Lib.lastIdx, lastN]
  | succ k ih =>
    have hk : k < l.length := h
    rw [lastN_take l k hk]
    unfold Lib.lastIdx
    have e : ((⟨l.toArray⟩ : ByteArray).data[k]!) = l[k] := by simp [hk]
    rw [e]
    by_cases hb : l[k] = 47
    · rw [if_pos (by rw [hb]; rfl), if_pos hb]
      omega
    · rw [if_neg (fun e => hb (by
        apply UInt8.toNat.inj
        show l[k].toNat = 47
        omega)), if_neg hb]
      exact ih (by omega)
theorem lastSl_calls (l : List UInt8) (w : World) (hs : l.length ≤ 1000000) :
    Calls Tryz.prog 37 #[.string ⟨l.toArray⟩, .int .u8 47] w fun e w' => e = .returned (.int .i64 ((lastN l : Int) - 1)) ∧ w = w' := by
  refine (Tryz.strings_LastIndexByte ⟨l.toArray⟩ 47 (by show l.length < _; omega) w).mono fun e w' ⟨he, hw⟩ => ⟨?_, hw.symm⟩
  rw [he]
  show Ending.returned (.int .i64 (Lib.lastIdx ⟨l.toArray⟩ 47 l.length)) = _
  rw [lastIdx_list l l.length (Nat.le_refl _), List.take_length]

open Go.RowKit Go.Sort
theorem hasSuf_calls (l m : List UInt8) (w : World) (hs : l.length ≤ 1000000) :
    Calls Tryz.prog 59 #[.string ⟨l.toArray⟩, .string ⟨m.toArray⟩] w fun e w' => e = .returned (.bool (Lib.hasSuffix l m)) ∧ w = w' :=
  (Tryz.strings_HasSuffix ⟨l.toArray⟩ ⟨m.toArray⟩ w (by show l.length ≤ _; omega)).mono fun _ _ ⟨he, hw⟩ => ⟨he, hw.symm⟩
theorem cutSuf_calls (l m : List UInt8) (w : World) (hs : l.length ≤ 1000000) :
    Calls Tryz.prog 53 #[.string ⟨l.toArray⟩, .string ⟨m.toArray⟩] w fun e w' => e = .returned (.tuple #[.string ⟨(Lib.trimSuffix l m).toArray⟩, .bool (Lib.hasSuffix l m)]) ∧ w = w' :=
  (Tryz.strings_CutSuffix ⟨l.toArray⟩ ⟨m.toArray⟩ w (by show l.length ≤ _; omega)).mono fun _ _ ⟨he, hw⟩ => ⟨he, hw.symm⟩
theorem cutPre_calls (l m : List UInt8) (w : World) :
    Calls Tryz.prog 142 #[.string ⟨l.toArray⟩, .string ⟨m.toArray⟩] w fun e w' => e = .returned (.tuple #[.string ⟨(Lib.trimPrefix l m).toArray⟩, .bool (Lib.hasPrefix l m)]) ∧ w = w' :=
  (Tryz.strings_CutPrefix ⟨l.toArray⟩ ⟨m.toArray⟩ w).mono fun _ _ ⟨he, hw⟩ => ⟨he, hw.symm⟩
theorem endsB_suffix (l t : List UInt8) : endsB l t = (Lib.hasSuffix l t && (Lib.trimSuffix l t != [])) := by
  unfold endsB Lib.trimSuffix
  rw [← Lib.hasSuffix_of_drop]
  by_cases h : l.drop (l.length - t.length) = t
  · have hb : (l.drop (l.length - t.length) == t) = true := by simpa using h
    rw [hb]
    by_cases h2 : t.length ≤ l.length
    · rw [decide_eq_true h2]
      simp only [Bool.and_true, if_true, Bool.true_and]
      rw [Bool.eq_iff_iff]
      simp only [decide_eq_true_eq, bne_iff_ne, ne_eq]
      constructor
      · intro h3 h4
        have := congrArg List.length h4
        rw [List.length_take] at this
        simp at this
        omega
      · intro h3
        refine Nat.lt_of_le_of_ne h2 (fun e => h3 ?_)
        rw [e, Nat.sub_self]
        rfl
    · rw [decide_eq_false h2, decide_eq_false (by omega)]
      rfl
  · have hb : (l.drop (l.length - t.length) == t) = false := by simpa using h
    rw [hb]
    simp
theorem suffix_slash (l : List UInt8) : Lib.hasSuffix l [47] = (l.getLast? == some 47) := by
  unfold Lib.hasSuffix
  rw [Bool.eq_iff_iff, List.isSuffixOf_iff_suffix, beq_iff_eq, List.getLast?_eq_some_iff]
  constructor
  · rintro ⟨x, hx⟩
    exact ⟨x, hx.symm⟩
  · rintro ⟨x, hx⟩
    exact ⟨x, hx.symm⟩
end Go.Proofs.YtbeaheicjopooaaGreatDoor
