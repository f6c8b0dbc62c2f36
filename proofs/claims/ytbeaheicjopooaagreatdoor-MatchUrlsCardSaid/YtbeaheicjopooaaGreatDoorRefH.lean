/- What the reference answers of a path's pieces, of cleaning it, and of whether it is clean; texts of at most a million bytes. -/
import Derived.Test.YtbeaheicjopooaaGreatDoorProg
import Derived.Test.YtbeaheicjopooaaGreatDoorEnv
import Derived.Test.YtbeaheicjopooaaGreatDoorPure
import Derived.WalkSmall
namespace Go.Proofs.YtbeaheicjopooaaGreatDoor
open Go.RowKit Go.Sort
attribute [local go_sem] get_mk mk_append mk_extract0 mk_extract_end mk_extract_cons empty_mk cell_grow frozen_grow size_grow
attribute [local go_sem] mk_extract
/-- Texts as values. -/
def strW (xs : List (List UInt8)) : List Value := xs.map fun x => Value.string ⟨x.toArray⟩
theorem strW_length (xs : List (List UInt8)) : (strW xs).length = xs.length := by simp [strW]
theorem strW_snoc (xs : List (List UInt8)) (x : List UInt8) : strW (xs ++ [x]) = strW xs ++ [Value.string ⟨x.toArray⟩] := by simp [strW]
theorem strW_dropLast (xs : List (List UInt8)) : strW xs.dropLast = (strW xs).dropLast := by simp [strW]
theorem strW_get (xs : List (List UInt8)) (j : Nat) (h : j < (strW xs).length) : (strW xs)[j] = Value.string ⟨(xs[j]'(by rwa [strW_length] at h)).toArray⟩ := by simp [strW]
theorem info_strW : (Tryz.prog.info? 9).map (fun i => (i.zero, i.size, i.bytes)) = some (some (.string ByteArray.empty), 1, 16) := by kernel_rfl
/-- Pieces found, and where the next one begins. -/
def PiecesAt (r : List UInt8) (done : List (List UInt8)) (f k : Nat) : Prop :=
  splitC 47 r = done ++ splitC 47 (r.drop f) ∧ f ≤ k ∧ k ≤ r.length ∧ ∀ j (h : j < r.length), f ≤ j → j < k → r[j] ≠ 47
theorem PiecesAt.start (r : List UInt8) : PiecesAt r [] 0 0 := ⟨rfl, Nat.le_refl _, Nat.zero_le _, fun _ _ _ h => absurd h (Nat.not_lt_zero _)⟩
theorem PiecesAt.none {r : List UInt8} {done : List (List UInt8)} {f k : Nat} (h : PiecesAt r done f k) (hk : k < r.length) (hn : r[k] ≠ 47) : PiecesAt r done f (k + 1) := by
  obtain ⟨h1, h2, h3, h4⟩ := h
  refine ⟨h1, by omega, hk, fun j hj hf hjk => ?_⟩
  by_cases e : j = k
  · subst e; exact hn
  · exact h4 j hj hf (by omega)
theorem PiecesAt.clean {r : List UInt8} {done : List (List UInt8)} {f k : Nat} (h : PiecesAt r done f k) : (47 : UInt8) ∉ (r.take k).drop f := by
  obtain ⟨h1, h2, h3, h4⟩ := h
  intro hm
  obtain ⟨i, hi, he⟩ := List.getElem_of_mem hm
  simp only [List.length_drop, List.length_take] at hi
  rw [List.getElem_drop, List.getElem_take] at he
  exact h4 (f + i) (by omega) (by omega) (by omega) he
theorem PiecesAt.cut {r : List UInt8} {done : List (List UInt8)} {f k : Nat} (h : PiecesAt r done f k) (hk : k < r.length) (hn : r[k] = 47) : PiecesAt r (done ++ [(r.take k).drop f]) (k + 1) (k + 1) := by
  have hc := h.clean
  obtain ⟨h1, h2, h3, h4⟩ := h
  refine ⟨?_, Nat.le_refl _, hk, fun j _ a b => absurd a (by omega)⟩
  have e : r.drop f = (r.take k).drop f ++ 47 :: r.drop (k + 1) := by
    have e1 : r = r.take k ++ r.drop k := (List.take_append_drop k r).symm
    have e2 : r.drop k = 47 :: r.drop (k + 1) := by rw [List.drop_eq_getElem_cons hk, hn]
    conv => lhs; rw [e1]
    rw [List.drop_append_of_le_length (by rw [List.length_take]; omega), e2]
  rw [h1, e, splitC_append 47 _ _ hc]
  simp
theorem PiecesAt.whole {r : List UInt8} {done : List (List UInt8)} {f : Nat} (h : PiecesAt r done f r.length) : done ++ [r.drop f] = splitC 47 r := by
  have hc := h.clean
  rw [List.take_length] at hc
  rw [h.1, splitC_whole 47 _ hc]
theorem PiecesAt.few {r : List UInt8} {done : List (List UInt8)} {f k : Nat} (h : PiecesAt r done f k) : done.length ≤ r.length + 1 := by
  have := splitC_length 47 r
  rw [h.1, List.length_append] at this
  omega
def PRel (w : World) (r : List UInt8) (v f i : Value) (wr : World) : Prop :=
  (∃ (k fr : Nat) (done : List (List UInt8)), f = .int .i64 ((fr : Int) + 1) ∧ i = .int .i64 ((k : Int) + 1) ∧ PiecesAt r done fr k ∧ Own 9 w wr v (strW done)) ∨
  (i = .int .i64 ((r.length : Int) + 2) ∧ Own 9 w wr v (strW (splitC 47 r)))
set_option maxRecDepth 100000 in
set_option maxHeartbeats 1000000 in
theorem rpieces_calls (r : List UInt8) (w : World) (hs : r.length ≤ 1000000) :
    Calls Tryz.prog 120 #[.string ⟨(47 :: r).toArray⟩] w fun e w' => ∃ v, e = .returned v ∧ Own 9 w w' v (strW (splitC 47 r)) := by
  go_enter Tryz.func120, Tryz.ntmps120
  go_wp2_with fail
  go_loopw [3, 4, 5] (fun v f i wr => PRel w r v f i wr) (fun _ _ i _ => r.length + 2 - (intOf i).toNat)
  case atStart => exact .inl ⟨0, 0, [], rfl, rfl, PiecesAt.start r, Own.nil _ _⟩
  case round =>
    rcases hrel with ⟨k, fr, done, rfl, rfl, hP, hO⟩ | ⟨rfl, hO⟩
    · have hk := hP.2.2.1
      have hfk := hP.2.1
      have hfew := hP.few
      have hdl : (strW done).length ≤ 1000001 := by rw [strW_length]; omega
      have HO := Lib.hid hO
      have HP := Lib.hid hP
      have hsz2 := Lib.hid hO.1.size
      obtain ⟨i0, hi, hz0, hz1, hz2⟩ := info_parts info_strW
      clear hO hP hfew
      by_cases hlt : k < r.length
      · by_cases hb : r[k] = 47
        · have hbb : ((r[k].toNat : Int) == 47) = true := by rw [hb]; rfl
          have HB := Lib.hid hb
          clear hb
          go_wp2_with (first | (at_builtin; refine wpList_append_own _ rfl _ _ 84 rfl w.heap.size 9 i0 (.string ByteArray.empty) 1 16 Tryz.underlying84 hi hz0 hz1 hz2 rfl (by decide) _ _ _ rfl (Own.alloc HO.out _) ⟨wr.heap.size, 0, none⟩ 1 1 [.string ⟨((r.take k).drop fr).toArray⟩] rfl rfl (cell_one_new _ _ _) (by simp [Value.oneCell']) (by (try simp only [List.length_append, List.length_cons, List.length_nil]); unfold maxLen; omega) (by (try simp only [List.length_append, List.length_cons, List.length_nil]); omega) (by rw [World.size_alloc]; have := hsz2.out; omega) ?_; intro v' w1 hown1 hgrow1 _))
          refine ⟨.inl ⟨k + 1, k + 1, _, by go_num, by go_num, HP.out.cut hlt HB.out, ?_⟩, by simp [intOf]; omega⟩
          rw [strW_snoc]
          exact Own.push _ HO.out hown1 hgrow1
        · have hbb : ((r[k].toNat : Int) == 47) = false := by
            rw [beq_eq_false_iff_ne]
            intro e
            apply hb
            apply UInt8.toNat.inj
            show r[k].toNat = 47
            omega
          have HB := Lib.hid hb
          clear hb
          go_wp2_with fail
          exact ⟨.inl ⟨k + 1, fr, done, rfl, by go_num, HP.out.none hlt HB.out, HO.out⟩, by simp [intOf]; omega⟩
      · obtain rfl : k = r.length := by omega
        have hw := HP.out.whole
        have HW := Lib.hid hw
        clear hw hlt
        go_wp2_with (first | (at_builtin; refine wpList_append_own _ rfl _ _ 84 rfl w.heap.size 9 i0 (.string ByteArray.empty) 1 16 Tryz.underlying84 hi hz0 hz1 hz2 rfl (by decide) _ _ _ rfl (Own.alloc HO.out _) ⟨wr.heap.size, 0, none⟩ 1 1 [.string ⟨(r.drop fr).toArray⟩] rfl rfl (cell_one_new _ _ _) (by simp [Value.oneCell']) (by (try simp only [List.length_append, List.length_cons, List.length_nil]); unfold maxLen; omega) (by (try simp only [List.length_append, List.length_cons, List.length_nil]); omega) (by rw [World.size_alloc]; have := hsz2.out; omega) ?_; intro v' w1 hown1 hgrow1 _))
        refine ⟨.inr ⟨by go_num, ?_⟩, by simp [intOf]; omega⟩
        rw [← HW.out, strW_snoc]
        exact Own.push _ HO.out hown1 hgrow1
    · go_wp2_with fail
      go_ret
      exact ⟨_, rfl, hO⟩
end Go.Proofs.YtbeaheicjopooaaGreatDoor
