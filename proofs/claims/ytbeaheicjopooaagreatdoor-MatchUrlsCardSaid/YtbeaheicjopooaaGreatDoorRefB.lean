/- What the reference answers of letters, blanks and hosts; texts of at most a million bytes. -/
import Derived.Test.YtbeaheicjopooaaGreatDoorProg
import Derived.Test.YtbeaheicjopooaaGreatDoorEnv
import Derived.Test.YtbeaheicjopooaaGreatDoorPure
import Derived.Test.YtbeaheicjopooaaGreatDoorFold
import Derived.Test.YtbeaheicjopooaaGreatDoorRefA
namespace Go.Proofs.YtbeaheicjopooaaGreatDoor
open Go.RowKit Go.Sort
attribute [local go_sem] get_mk mk_append mk_extract0 mk_extract_end mk_extract_cons empty_mk cell_grow frozen_grow size_grow
theorem lowerL_snoc (l : List UInt8) (k : Nat) (h : k < l.length) : lowerL (l.take (k + 1)) = lowerL (l.take k) ++ [low l[k]] := by
  rw [List.take_succ_eq_append_getElem h, lowerL, List.map_append]
  rfl
theorem conv_nil (w : World) : (convert 80 9 (.slice none 0 0)).run Tryz.prog w = .ok (.string ⟨#[]⟩) w := by kernel_rfl
theorem low_great2 (b : UInt8) (h1 : 65 ≤ (b.toNat : Int)) (h2 : (b.toNat : Int) ≤ 90) : ((low b).toNat : Int) = (b.toNat : Int) + 32 := by
  rw [low_great b h1 h2]; omega
set_option maxRecDepth 100000 in
set_option maxHeartbeats 1000000 in
theorem rlower_calls (l : List UInt8) (w : World) (hs : l.length ≤ 1000000) :
    Calls Tryz.prog 49 #[.string ⟨l.toArray⟩] w fun e w' => e = .returned (.string ⟨(lowerL l).toArray⟩) ∧ Reach w w' := by
  go_enter Tryz.func49, Tryz.ntmps49
  go_wp2
  go_loopw [3, 4, 5] (fun v i _ wr => ∃ k : Nat, k ≤ l.length ∧ i = .int .i64 k ∧ RowKit.Hid (Own 5 w wr v (byteV (lowerL (l.take k))))) (fun _ i _ _ => l.length - (intOf i).toNat)
  case atStart => exact ⟨0, Nat.zero_le _, rfl, Own.nil _ _⟩
  case round =>
    obtain ⟨k, hk, rfl, hrel⟩ := hrel
    by_cases hlt : k < l.length
    · obtain ⟨i0, hi, hz0, hz1, hz2⟩ := info_parts info_byte
      have hlen : (byteV (lowerL (l.take k))).length ≤ 1000000 := by rw [byteV_length, lowerL_length, List.length_take]; omega
      have hsz2 := Lib.hid hrel.out.1.size
      have hn := byteV_snoc (lowerL (l.take k)) (low l[k])
      rw [← lowerL_snoc l k hlt] at hn
      have HN := Lib.hid hn
      clear hn
      generalize byteV (lowerL (l.take k)) = cs at hrel hlen HN
      have HR := hrel
      rcases hrel.out.cases with ⟨rfl, rfl⟩ | ⟨g, cap, rfl, hcap1, hcap2⟩
      · clear hrel
        by_cases hg : 65 ≤ (l[k].toNat : Int) ∧ (l[k].toNat : Int) ≤ 90
        · have hv := low_great2 l[k] hg.1 hg.2
          have HV := Lib.hid hv
          clear hv
          obtain ⟨g1, g2⟩ := hg
          go_wp2_with (first | (at_builtin; refine wpList_append_own _ rfl _ _ 80 rfl w.heap.size 5 i0 (.int .u8 0) 1 1 Tryz.underlying80 hi hz0 hz1 hz2 rfl (by decide) _ _ _ rfl (Own.alloc HR.out _) ⟨wr.heap.size, 0, none⟩ 1 1 [.int .u8 ((l[k].toNat : Int) + 32)] rfl rfl (cell_one_new _ _ _) (by simp [Value.oneCell']) (by first | (unfold maxLen; omega) | ((try simp only [List.length_append, List.length_cons, List.length_nil]); unfold maxLen; omega)) (by first | omega | ((try simp only [List.length_append, List.length_cons, List.length_nil]); omega)) (by rw [World.size_alloc]; have := hsz2.out; omega) ?_; intro v' w1 hown1 hgrow1 _))
          refine ⟨⟨k + 1, by omega, by go_num, ?_⟩, by simp [intOf]; omega⟩
          rw [HN.out, HV.out]
          exact Own.push _ HR.out hown1 hgrow1
        · have hv := low_small l[k] hg
          have HV := Lib.hid hv
          clear hv
          go_wp2_with (first | (at_builtin; refine wpList_append_own _ rfl _ _ 80 rfl w.heap.size 5 i0 (.int .u8 0) 1 1 Tryz.underlying80 hi hz0 hz1 hz2 rfl (by decide) _ _ _ rfl (Own.alloc HR.out _) ⟨wr.heap.size, 0, none⟩ 1 1 [.int .u8 (l[k].toNat : Int)] rfl rfl (cell_one_new _ _ _) (by simp [Value.oneCell']) (by first | (unfold maxLen; omega) | ((try simp only [List.length_append, List.length_cons, List.length_nil]); unfold maxLen; omega)) (by first | omega | ((try simp only [List.length_append, List.length_cons, List.length_nil]); omega)) (by rw [World.size_alloc]; have := hsz2.out; omega) ?_; intro v' w1 hown1 hgrow1 _))
          all_goals (first | (exfalso; omega) | skip)
          all_goals refine ⟨⟨k + 1, by omega, by go_num, ?_⟩, by simp [intOf]; omega⟩
          all_goals rw [HN.out, HV.out]
          all_goals exact Own.push _ HR.out hown1 hgrow1
      · clear hrel
        by_cases hg : 65 ≤ (l[k].toNat : Int) ∧ (l[k].toNat : Int) ≤ 90
        · have hv := low_great2 l[k] hg.1 hg.2
          have HV := Lib.hid hv
          clear hv
          obtain ⟨g1, g2⟩ := hg
          go_wp2_with (first | (at_builtin; refine wpList_append_own _ rfl _ _ 80 rfl w.heap.size 5 i0 (.int .u8 0) 1 1 Tryz.underlying80 hi hz0 hz1 hz2 rfl (by decide) _ _ _ rfl (Own.alloc HR.out _) ⟨wr.heap.size, 0, none⟩ 1 1 [.int .u8 ((l[k].toNat : Int) + 32)] rfl rfl (cell_one_new _ _ _) (by simp [Value.oneCell']) (by first | (unfold maxLen; omega) | ((try simp only [List.length_append, List.length_cons, List.length_nil]); unfold maxLen; omega)) (by first | omega | ((try simp only [List.length_append, List.length_cons, List.length_nil]); omega)) (by rw [World.size_alloc]; have := hsz2.out; omega) ?_; intro v' w1 hown1 hgrow1 _))
          refine ⟨⟨k + 1, by omega, by go_num, ?_⟩, by simp [intOf]; omega⟩
          rw [HN.out, HV.out]
          exact Own.push _ HR.out hown1 hgrow1
        · have hv := low_small l[k] hg
          have HV := Lib.hid hv
          clear hv
          go_wp2_with (first | (at_builtin; refine wpList_append_own _ rfl _ _ 80 rfl w.heap.size 5 i0 (.int .u8 0) 1 1 Tryz.underlying80 hi hz0 hz1 hz2 rfl (by decide) _ _ _ rfl (Own.alloc HR.out _) ⟨wr.heap.size, 0, none⟩ 1 1 [.int .u8 (l[k].toNat : Int)] rfl rfl (cell_one_new _ _ _) (by simp [Value.oneCell']) (by first | (unfold maxLen; omega) | ((try simp only [List.length_append, List.length_cons, List.length_nil]); unfold maxLen; omega)) (by first | omega | ((try simp only [List.length_append, List.length_cons, List.length_nil]); omega)) (by rw [World.size_alloc]; have := hsz2.out; omega) ?_; intro v' w1 hown1 hgrow1 _))
          all_goals (first | (exfalso; omega) | skip)
          all_goals refine ⟨⟨k + 1, by omega, by go_num, ?_⟩, by simp [intOf]; omega⟩
          all_goals rw [HN.out, HV.out]
          all_goals exact Own.push _ HR.out hown1 hgrow1
    · have hh := hrel.out
      rw [List.take_of_length_le (by omega)] at hh
      have HH := Lib.hid hh
      clear hrel
      rcases hh.cases with ⟨rfl, h0⟩ | ⟨g, cap, rfl, hcap1, hcap2⟩
      · have he : lowerL l = [] := by
          cases hx : lowerL l with
          | nil => rfl
          | cons x xs => rw [hx] at h0; simp [byteV] at h0
        have HX := Lib.hid he
        have hr := HH.out.1
        have hcv := conv_nil wr
        clear h0 hh he
        go_wp2_with fail
        go_ret
        exact ⟨ret_string HX.out.symm, hr⟩
      · have hc := (Own.cellAt hh).2
        have hback := run_convert_bytes_back (P := Tryz.prog) (w := wr) 80 9 5 ⟨g, 0, none⟩ cap (lowerL l) Tryz.underlying80 Tryz.underlying5 Tryz.underlying9
          (fun j hj => by
            have := hc j (by rw [byteV_length]; exact hj)
            cases j with
            | zero => simp [byteV] at this; exact this
            | succ j => simpa [Addr.add, byteV] using this)
        have hr := HH.out.1
        clear hc hh
        have hbl := byteV_length (lowerL l)
        go_wp2_with fail
        go_ret
        exact ⟨rfl, hr⟩
end Go.Proofs.YtbeaheicjopooaaGreatDoor
