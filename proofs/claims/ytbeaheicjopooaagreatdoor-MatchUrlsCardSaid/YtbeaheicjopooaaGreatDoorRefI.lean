/- What the reference answers of cleaning a path, and of whether it is clean; texts of at most a million bytes. -/
import Derived.Test.YtbeaheicjopooaaGreatDoorProg
import Derived.Test.YtbeaheicjopooaaGreatDoorRefH
import Derived.Lib.Join
namespace Go.Proofs.YtbeaheicjopooaaGreatDoor
open Go.RowKit Go.Sort
attribute [local go_sem] get_mk mk_append mk_extract0 mk_extract_end mk_extract_cons empty_mk cell_grow frozen_grow size_grow
attribute [local go_sem] mk_extract
theorem joinTail_snoc (xs : List (List UInt8)) (x : List UInt8) : Lib.joinTail [47] (xs ++ [x]) = Lib.joinTail [47] xs ++ 47 :: x := by simp [Lib.joinTail]
theorem joinTail_all (xs : List (List UInt8)) (h : xs ≠ []) : Lib.joinTail [47] xs = 47 :: Lib.join xs [47] := by
  cases xs with
  | nil => exact absurd rfl h
  | cons x r => rw [Lib.join_cons]; simp [Lib.joinTail]
theorem joinTail_take (xs : List (List UInt8)) (k : Nat) (h : k < xs.length) : Lib.joinTail [47] (xs.take (k + 1)) = Lib.joinTail [47] (xs.take k) ++ 47 :: xs[k] := by
  rw [List.take_succ_eq_append_getElem h, joinTail_snoc]
theorem joinTail_few (xs : List (List UInt8)) (k : Nat) : (Lib.joinTail [47] (xs.take k)).length ≤ heft xs := by
  refine Nat.le_trans (Lib.joinTail_take_le [47] xs k) ?_
  rw [Lib.joinTail_length]
  have : Lib.lens xs = totalL xs := by
    induction xs with
    | nil => rfl
    | cons x xs ih => simp only [Lib.lens, List.map_cons, List.sum_cons, totalL] at ih ⊢; rw [ih]
  simp only [heft, this, List.length_singleton]
  omega
theorem heft_split (r : List UInt8) : heft (splitC 47 r) = r.length + 1 := by
  have h := heft_join (splitC 47 r) 47 (splitC_ne 47 r)
  rw [join_splitC] at h
  omega
set_option maxRecDepth 100000 in
set_option maxHeartbeats 2000000 in
theorem rclean_yes (r : List UInt8) (w : World) (hs : r.length ≤ 1000000) :
    Calls Tryz.prog 119 #[.string ⟨(47 :: r).toArray⟩] w fun e w' => e = .returned (.string ⟨(cleanL (47 :: r)).toArray⟩) ∧ Reach w w' := by
  have hcl := cleanL_cons r
  have HP := Lib.hid (fun W => rpieces_calls r W hs)
  have hlen := splitC_length 47 r
  have hhe := heft_split r
  have hne := splitC_ne 47 r
  generalize splitC 47 r = ps at *
  have HC := Lib.hid hcl
  have HNE := Lib.hid hne
  clear hcl hne
  go_enter Tryz.func119, Tryz.ntmps119
  go_wp2_with (first | (go_at_call 120; (with_reducible refine Calls.mono (HP.out _) ?_); rintro e W1 ⟨v, rfl, hO⟩))
  obtain ⟨g, cap, rfl, hcap, hmx⟩ : ∃ g cap, v = .slice (some ⟨g, 0, none⟩) ps.length cap ∧ ps.length ≤ cap ∧ cap ≤ maxLen := by
    rcases hO.cases with ⟨_, h0⟩ | ⟨g, cap, h1, h2, h3⟩
    · exfalso
      apply HNE.out
      have := congrArg List.length h0
      rw [strW_length] at this
      exact List.eq_nil_of_length_eq_zero this
    · rw [strW_length] at h1 h2
      exact ⟨g, cap, h1, h2, h3⟩
  have HR0 := Lib.hid hO.1
  have hca := Own.cellAt (cs := strW ps) (g := g) (cap := cap) (by rw [strW_length]; exact hO)
  have HG := Lib.hid hca.1
  have HCA := Lib.hid (show ∀ j (h : j < ps.length), W1.cell? ⟨g, j, none⟩ = some (.string ⟨(ps[j]).toArray⟩) from fun j h => by
    rw [hca.2 j (by rw [strW_length]; exact h), strW_get])
  clear hca hO
  go_wp2_with fail
  go_loopw [4, 5] (fun v i wr => ∃ k : Nat, k ≤ ps.length ∧ i = .int .i64 k ∧ Own 9 W1 wr v (strW (cleanStk ps k))) (fun _ i _ => ps.length - (intOf i).toNat)
  case atStart => exact ⟨0, Nat.zero_le _, rfl, Own.nil _ _⟩
  case round =>
    obtain ⟨k, hk, rfl, hrel⟩ := hrel
    by_cases hlt : k < ps.length
    · have hcell : wr.cell? ⟨g, k, none⟩ = some (.string ⟨(ps[k]).toArray⟩) := by
        rw [(Reach.facts hrel.1).1 _ _ HG.out]; exact HCA.out k hlt
      have hsz2 := Lib.hid hrel.1.size
      have hst := cleanStk_length ps k
      have hnext : cleanStk ps (k + 1) = cleanStep (decide (k + 1 = ps.length)) (cleanStk ps k) ps[k] := by
        simp [cleanStk, List.getD_eq_getElem?_getD, List.getElem?_eq_getElem hlt]
      obtain ⟨i0, hi, hz0, hz1, hz2⟩ := info_parts info_strW
      generalize ps[k] = p at hcell hnext
      generalize cleanStk ps k = st at hrel hst hnext
      have HN := Lib.hid hnext
      have HR := Lib.hid hrel
      have hdl : (strW st).length ≤ 1000001 := by rw [strW_length]; omega
      have hsl := strW_length st
      clear hnext
      by_cases h1 : p = [46, 46]
      · have hb1 : (p == [46, 46]) = true := by simp [h1]
        have hb0 : (p == [46]) = false := by simp [h1]
        have P1 := Lib.hid h1
        clear h1
        by_cases hst0 : st = []
        · have hd0 : st.dropLast = st := by rw [hst0]; rfl
          have HD := Lib.hid hd0
          clear hd0
          rcases hrel.cases with ⟨rfl, _⟩ | ⟨g2, cap2, rfl, hcap1, hcap2⟩
          · clear hrel
            have HS0 := Lib.hid hst0
            clear hst0
            by_cases hl : k + 1 = ps.length
            · have hbl : ((k : Int) == (ps.length : Int) - 1) = true := by rw [beq_iff_eq]; omega
              have L1 := Lib.hid hl
              clear hl
              go_wp2_with (first | (at_builtin; refine wpList_append_own _ rfl _ _ 84 rfl W1.heap.size 9 i0 (.string ByteArray.empty) 1 16 Tryz.underlying84 hi hz0 hz1 hz2 rfl (by decide) _ _ _ rfl (Own.alloc HR.out _) ⟨wr.heap.size, 0, none⟩ 1 1 [.string ⟨([] : List UInt8).toArray⟩] rfl rfl (cell_one_new _ _ _) (by simp [Value.oneCell']) (by (try simp only [List.length_append, List.length_cons, List.length_nil]); unfold maxLen; omega) (by (try simp only [List.length_append, List.length_cons, List.length_nil]); omega) (by rw [World.size_alloc]; have := hsz2.out; omega) ?_; intro v' w1 hown1 hgrow1 _))
              refine ⟨⟨k + 1, by omega, by go_num, ?_⟩, by simp [intOf]; omega⟩
              rw [HN.out, cleanStep, if_pos P1.out, if_pos (by simpa using L1.out), HD.out, strW_snoc]
              exact Own.push _ HR.out hown1 hgrow1
            · have hbl : ((k : Int) == (ps.length : Int) - 1) = false := by rw [beq_eq_false_iff_ne]; omega
              have L1 := Lib.hid hl
              clear hl
              go_wp2_with fail
              refine ⟨⟨k + 1, by omega, by go_num, ?_⟩, by simp [intOf]; omega⟩
              rw [HN.out, cleanStep, if_pos P1.out, if_neg (by simpa using L1.out), HD.out]
              exact HR.out
          · clear hrel
            unfold maxLen at hcap2
            have hs0 : (strW st).length = 0 := by rw [strW_length, hst0]; rfl
            rw [hs0] at HR hcap1
            simp only [hs0]
            have HR2 := Lib.hid (show Own 9 W1 wr (.slice (some ⟨g2, 0, none⟩) 0 cap2) (strW st) from HR.out)
            clear hst0 hs0 HR hsl
            by_cases hl : k + 1 = ps.length
            · have hbl : ((k : Int) == (ps.length : Int) - 1) = true := by rw [beq_iff_eq]; omega
              have L1 := Lib.hid hl
              clear hl
              go_wp2_with (first | (at_builtin; refine wpList_append_own _ rfl _ _ 84 rfl W1.heap.size 9 i0 (.string ByteArray.empty) 1 16 Tryz.underlying84 hi hz0 hz1 hz2 rfl (by decide) _ _ _ rfl (Own.alloc HR2.out _) ⟨wr.heap.size, 0, none⟩ 1 1 [.string ⟨([] : List UInt8).toArray⟩] rfl rfl (cell_one_new _ _ _) (by simp [Value.oneCell']) (by (try simp only [List.length_append, List.length_cons, List.length_nil]); unfold maxLen; omega) (by (try simp only [List.length_append, List.length_cons, List.length_nil]); omega) (by rw [World.size_alloc]; have := hsz2.out; omega) ?_; intro v' w1 hown1 hgrow1 _))
              refine ⟨⟨k + 1, by omega, by go_num, ?_⟩, by simp [intOf]; omega⟩
              rw [HN.out, cleanStep, if_pos P1.out, if_pos (by simpa using L1.out), HD.out, strW_snoc]
              exact Own.push _ HR2.out hown1 hgrow1
            · have hbl : ((k : Int) == (ps.length : Int) - 1) = false := by rw [beq_eq_false_iff_ne]; omega
              have L1 := Lib.hid hl
              clear hl
              go_wp2_with fail
              refine ⟨⟨k + 1, by omega, by go_num, ?_⟩, by simp [intOf]; omega⟩
              rw [HN.out, cleanStep, if_pos P1.out, if_neg (by simpa using L1.out), HD.out]
              exact HR2.out
        · obtain ⟨ys, y, rfl⟩ : ∃ ys y, st = ys ++ [y] := ⟨st.dropLast, st.getLast hst0, (List.dropLast_concat_getLast hst0).symm⟩
          rcases hrel.cases with ⟨rfl, h0⟩ | ⟨g2, cap2, rfl, hcap1, hcap2⟩
          · exfalso
            rw [strW_snoc] at h0
            simp at h0
          · clear hrel
            unfold maxLen at hcap2
            have hsn : strW (ys ++ [y]) ≠ [] := by rw [strW_snoc]; simp
            have hpop := Own.pop hsn HR.out
            have e1 : (strW (ys ++ [y])).length = ys.length + 1 := by simp [strW_length]
            rw [← strW_dropLast, List.dropLast_concat, e1, Nat.add_sub_cancel] at hpop
            have HP2 := Lib.hid hpop
            rw [e1] at hcap1 hdl
            simp only [e1]
            have hdl2 : (strW ys).length ≤ 1000001 := by rw [strW_length]; omega
            have HD := Lib.hid (List.dropLast_concat (l₁ := ys) (b := y))
            clear hpop e1 hsn hst0 HR hsl
            by_cases hl : k + 1 = ps.length
            · have hbl : ((k : Int) == (ps.length : Int) - 1) = true := by rw [beq_iff_eq]; omega
              have L1 := Lib.hid hl
              clear hl
              go_wp2_with (first | (at_builtin; refine wpList_append_own _ rfl _ _ 84 rfl W1.heap.size 9 i0 (.string ByteArray.empty) 1 16 Tryz.underlying84 hi hz0 hz1 hz2 rfl (by decide) _ _ _ rfl (Own.alloc HP2.out _) ⟨wr.heap.size, 0, none⟩ 1 1 [.string ⟨([] : List UInt8).toArray⟩] rfl rfl (cell_one_new _ _ _) (by simp [Value.oneCell']) (by (try simp only [List.length_append, List.length_cons, List.length_nil]); unfold maxLen; omega) (by (try simp only [List.length_append, List.length_cons, List.length_nil]); omega) (by rw [World.size_alloc]; have := hsz2.out; omega) ?_; intro v' w1 hown1 hgrow1 _))
              refine ⟨⟨k + 1, by omega, by go_num, ?_⟩, by simp [intOf]; omega⟩
              rw [HN.out, cleanStep, if_pos P1.out, if_pos (by simpa using L1.out), HD.out, strW_snoc]
              exact Own.push _ HP2.out hown1 hgrow1
            · have hbl : ((k : Int) == (ps.length : Int) - 1) = false := by rw [beq_eq_false_iff_ne]; omega
              have L1 := Lib.hid hl
              clear hl
              go_wp2_with fail
              refine ⟨⟨k + 1, by omega, by go_num, ?_⟩, by simp [intOf]; omega⟩
              rw [HN.out, cleanStep, if_pos P1.out, if_neg (by simpa using L1.out), HD.out]
              exact HP2.out
      · have hb1 : (p == [46, 46]) = false := by simp [h1]
        have N1 := Lib.hid h1
        clear h1
        by_cases h2 : p = [46]
        · have hb2 : (p == [46]) = true := by simp [h2]
          have P2 := Lib.hid h2
          clear h2 hrel hsl
          by_cases hl : k + 1 = ps.length
          · have hbl : ((k : Int) == (ps.length : Int) - 1) = true := by rw [beq_iff_eq]; omega
            have L1 := Lib.hid hl
            clear hl
            go_wp2_with (first | (at_builtin; refine wpList_append_own _ rfl _ _ 84 rfl W1.heap.size 9 i0 (.string ByteArray.empty) 1 16 Tryz.underlying84 hi hz0 hz1 hz2 rfl (by decide) _ _ _ rfl (Own.alloc HR.out _) ⟨wr.heap.size, 0, none⟩ 1 1 [.string ⟨([] : List UInt8).toArray⟩] rfl rfl (cell_one_new _ _ _) (by simp [Value.oneCell']) (by (try simp only [List.length_append, List.length_cons, List.length_nil]); unfold maxLen; omega) (by (try simp only [List.length_append, List.length_cons, List.length_nil]); omega) (by rw [World.size_alloc]; have := hsz2.out; omega) ?_; intro v' w1 hown1 hgrow1 _))
            refine ⟨⟨k + 1, by omega, by go_num, ?_⟩, by simp [intOf]; omega⟩
            rw [HN.out, cleanStep, if_neg N1.out, if_pos P2.out, if_pos (by simpa using L1.out), strW_snoc]
            exact Own.push _ HR.out hown1 hgrow1
          · have hbl : ((k : Int) == (ps.length : Int) - 1) = false := by rw [beq_eq_false_iff_ne]; omega
            have L1 := Lib.hid hl
            clear hl
            go_wp2_with fail
            refine ⟨⟨k + 1, by omega, by go_num, ?_⟩, by simp [intOf]; omega⟩
            rw [HN.out, cleanStep, if_neg N1.out, if_pos P2.out, if_neg (by simpa using L1.out)]
            exact HR.out
        · have hb2 : (p == [46]) = false := by simp [h2]
          have N2 := Lib.hid h2
          clear h2 hrel hsl
          go_wp2_with (first | (at_builtin; refine wpList_append_own _ rfl _ _ 84 rfl W1.heap.size 9 i0 (.string ByteArray.empty) 1 16 Tryz.underlying84 hi hz0 hz1 hz2 rfl (by decide) _ _ _ rfl (Own.alloc HR.out _) ⟨wr.heap.size, 0, none⟩ 1 1 [.string ⟨p.toArray⟩] rfl rfl (cell_one_new _ _ _) (by simp [Value.oneCell']) (by (try simp only [List.length_append, List.length_cons, List.length_nil]); unfold maxLen; omega) (by (try simp only [List.length_append, List.length_cons, List.length_nil]); omega) (by rw [World.size_alloc]; have := hsz2.out; omega) ?_; intro v' w1 hown1 hgrow1 _))
          refine ⟨⟨k + 1, by omega, by go_num, ?_⟩, by simp [intOf]; omega⟩
          rw [HN.out, cleanStep, if_neg N1.out, if_neg N2.out, strW_snoc]
          exact Own.push _ HR.out hown1 hgrow1
    · obtain rfl : k = ps.length := by omega
      have hst := cleanStk_ne ps HNE.out
      have hh := heft_cleanStk ps ps.length (Nat.le_refl _)
      rw [List.take_length] at hh
      have hjt := joinTail_all _ hst
      rw [← HC.out] at hjt
      have hR : Reach w wr := Reach.trans HR0.out hrel.1
      have hlst := cleanStk_length ps ps.length
      generalize cleanStk ps ps.length = st at *
      have HJ := Lib.hid hjt
      have HR := Lib.hid hR
      have HB := Lib.hid (fun k => joinTail_few st k)
      clear hjt hR
      have hsl := strW_length st
      rcases hrel.cases with ⟨_, h0⟩ | ⟨g2, cap2, rfl, hcap1, hcap2⟩
      · exfalso
        apply hst
        have := congrArg List.length h0
        rw [strW_length] at this
        exact List.eq_nil_of_length_eq_zero this
      rw [hsl] at hrel hcap1
      simp only [hsl]
      clear hsl
      have hca := Own.cellAt (cs := strW st) (g := g2) (cap := cap2) (by rw [strW_length]; exact hrel)
      have HCA2 := Lib.hid (show ∀ j (h : j < st.length), wr.cell? ⟨g2, j, none⟩ = some (.string ⟨(st[j]).toArray⟩) from fun j h => by
        rw [hca.2 j (by rw [strW_length]; exact h), strW_get])
      have HG2 := Lib.hid hca.1
      clear hca hrel hst HC
      go_wp2_with fail
      have HWR := Lib.hid (Reach.refl wr)
      go_loopw [7, 8] (fun t i wi => ∃ k : Nat, k ≤ st.length ∧ i = .int .i64 k ∧ t = .string ⟨(Lib.joinTail [47] (st.take k)).toArray⟩ ∧ RowKit.Hid (Reach wr wi)) (fun _ i _ => st.length - (intOf i).toNat)
      case atStart => exact ⟨0, Nat.zero_le _, rfl, rfl, HWR⟩
      case round =>
        obtain ⟨k, hk, rfl, rfl, hRR⟩ := hrel
        by_cases hlt : k < st.length
        · have hcell := ((Reach.facts hRR.out).1 _ _ HG2.out).trans (HCA2.out k hlt)
          have hbl := HB.out k
          have hsn := joinTail_take st k hlt
          have hsl : (st[k]).length ≤ 1000001 := by
            have := HB.out (k + 1)
            rw [hsn, List.length_append, List.length_cons] at this
            omega
          have HSN := Lib.hid hsn
          clear hsn
          go_wp2_with fail
          exact ⟨⟨k + 1, by omega, by go_num, by rw [HSN.out], hRR⟩, by simp [intOf]; omega⟩
        · obtain rfl : k = st.length := by omega
          rw [List.take_length]
          have hR := Reach.trans HR.out hRR.out
          have HRR := Lib.hid hR
          rw [HJ.out]
          clear hR
          go_wp2_with fail
          go_ret
          exact ⟨rfl, HRR.out⟩
set_option maxHeartbeats 1000000 in
theorem rclean_calls (l : List UInt8) (w : World) (hs : l.length ≤ 1000000) :
    Calls Tryz.prog 119 #[.string ⟨l.toArray⟩] w fun e w' => e = .returned (.string ⟨(cleanL l).toArray⟩) ∧ Reach w w' := by
  cases l with
  | nil =>
    go_enter Tryz.func119, Tryz.ntmps119
    go_wp2_with (first | ((with_reducible refine wp_region_quiet_below (by kernel_rfl) (by kernel_rfl) ?_); (repeat (any_goals (first | (go_big_quiet_step (fail)) | (quiet_step (fail)) | (refine wpQuiet_step (fun K hK => ?_); go_simp; split <;> (refine hK _ ?_; clear hK K))))); all_goals (refine wpQuiet_nil ?_; intro _ hw'; obtain ⟨⟨dq, osq⟩, hw''⟩ := hw'; subst hw'')))
    go_ret
    exact ⟨rfl, Reach.refl _⟩
  | cons b r =>
    by_cases hb : b = 47
    · subst hb
      exact rclean_yes r w (by simp at hs; omega)
    · have hc := cleanL_other b r hb
      have HC := Lib.hid hc
      have hbb : ((b.toNat : Int) == 47) = false := by
        rw [beq_eq_false_iff_ne]
        intro e
        apply hb
        apply UInt8.toNat.inj
        show b.toNat = 47
        omega
      clear hc hb
      go_enter Tryz.func119, Tryz.ntmps119
      go_wp2_with (first | ((with_reducible refine wp_region_quiet_below (by kernel_rfl) (by kernel_rfl) ?_); (repeat (any_goals (first | (go_big_quiet_step (fail)) | (quiet_step (fail)) | (refine wpQuiet_step (fun K hK => ?_); go_simp; split <;> (refine hK _ ?_; clear hK K))))); all_goals (refine wpQuiet_nil ?_; intro _ hw'; obtain ⟨⟨dq, osq⟩, hw''⟩ := hw'; subst hw'')))
      all_goals first
        | (go_ret; exact ⟨ret_string HC.out.symm, Reach.refl _⟩)
        | (exfalso; simp_all; done)
end Go.Proofs.YtbeaheicjopooaaGreatDoor
