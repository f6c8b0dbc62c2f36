/- What package url's Clean answers, for paths of at most a million bytes. -/
import Derived.Test.YtbeaheicjopooaaGreatDoorProg
import Derived.Test.YtbeaheicjopooaaGreatDoorEnv
import Derived.Test.YtbeaheicjopooaaGreatDoorPure
import Derived.Test.YtbeaheicjopooaaGreatDoorShelf
import Derived.WalkSmall
import Derived.Lib.SplitLaws
namespace Go.Proofs.YtbeaheicjopooaaGreatDoor
open Go.RowKit Go.Sort
attribute [local go_sem] get_mk mk_append mk_extract0 mk_extract_end mk_extract_cons empty_mk cell_grow frozen_grow size_grow

theorem hasPre_calls (l m : List UInt8) (w : World) :
    Calls Tryz.prog 47 #[.string ⟨l.toArray⟩, .string ⟨m.toArray⟩] w fun e w' => e = .returned (.bool (Lib.hasPrefix l m)) ∧ w = w' :=
  (Tryz.strings_HasPrefix ⟨l.toArray⟩ ⟨m.toArray⟩ w).mono fun _ _ ⟨he, hw⟩ => ⟨he, hw.symm⟩
/-- Texts as values. -/
def strV (xs : List (List UInt8)) : List Value := xs.map fun x => Value.string ⟨x.toArray⟩
theorem strV_length (xs : List (List UInt8)) : (strV xs).length = xs.length := by simp [strV]
theorem split_calls (l : List UInt8) (c : UInt8) (w : World) (hs : l.length ≤ 1000000) (hE : Env w) :
    Calls Tryz.prog 105 #[.string ⟨l.toArray⟩, .string ⟨#[c]⟩] w fun e w' =>
      e = .returned (.slice (some ⟨w.heap.size, 0, none⟩) (splitC c l).length (splitC c l).length) ∧ w' = w.alloc (.cells (strV (splitC c l)).toArray 9) := by
  obtain ⟨x, hx⟩ := hE.maxl
  refine (Tryz.strings_Split ⟨l.toArray⟩ ⟨#[c]⟩ x w (by show l.length < _; omega) hx (Nat.le_refl 1)).mono fun e w' ⟨he, hw⟩ => ?_
  have h1 : (Lib.splitB ⟨#[c]⟩ 0 (Lib.countB ⟨l.toArray⟩ ⟨#[c]⟩) ⟨l.toArray⟩).map (·.data.toList) = splitC c l := by
    rw [Lib.splitB_data]
    exact splitK_splitC c l
  have h2 : (Lib.splitB ⟨#[c]⟩ 0 (Lib.countB ⟨l.toArray⟩ ⟨#[c]⟩) ⟨l.toArray⟩).map Value.string = strV (splitC c l) := by
    rw [← h1]
    simp [strV, Function.comp_def]
  have h3 : Lib.countB ⟨l.toArray⟩ ⟨#[c]⟩ + 1 = (splitC c l).length := by
    rw [← h1, List.length_map, Lib.splitB_all ⟨#[c]⟩ (Nat.le_refl 1) 0 _ ⟨l.toArray⟩ rfl]
  rw [h2] at hw
  rw [h3] at he
  exact ⟨he, hw⟩

/-- What the call itself appended: the texts st lie in a row of its own, behind W1. -/
def OwnS (W1 wr : World) (v : Value) (st : List (List UInt8)) : Prop := Reach W1 wr ∧ wr.ownsRow W1.heap.size 9 1 v st.length (strV st)
theorem OwnS.nil (W1 : World) : OwnS W1 W1 (.slice none 0 0) [] := ⟨Reach.refl _, rfl, .inl ⟨rfl, rfl⟩⟩
theorem OwnS.cases {W1 wr : World} {v : Value} {st : List (List UInt8)} (h : OwnS W1 wr v st) : (v = .slice none 0 0 ∧ st = []) ∨ ∃ g cap, v = .slice (some ⟨g, 0, none⟩) st.length cap ∧ st.length ≤ cap ∧ cap ≤ maxLen := by
  obtain ⟨_, h1, h2⟩ := h
  rcases h2 with ⟨a, b⟩ | ⟨g, cap, cur, a, b, c, d, e, _⟩
  · exact .inl ⟨a, List.eq_nil_of_length_eq_zero b⟩
  · exact .inr ⟨g, cap, a, d, e⟩
theorem OwnS.pop {W1 wr : World} {g cap : Nat} {st : List (List UInt8)} (hne : st ≠ []) (h : OwnS W1 wr (.slice (some ⟨g, 0, none⟩) st.length cap) st) : OwnS W1 wr (.slice (some ⟨g, 0, none⟩) (st.length - 1) cap) st.dropLast := by
  obtain ⟨hr, ho⟩ := h
  obtain ⟨ys, y, rfl⟩ : ∃ ys y, st = ys ++ [y] := ⟨st.dropLast, st.getLast hne, (List.dropLast_concat_getLast hne).symm⟩
  have e : (ys ++ [y]).length = ys.length + 1 := by simp
  rw [e] at ho ⊢
  rw [List.dropLast_concat, Nat.add_sub_cancel]
  refine ⟨hr, ownsRow_pop (last := strV [y]) (by simp [strV]) ?_⟩
  have : strV ys ++ strV [y] = strV (ys ++ [y]) := by simp [strV]
  rw [this]
  exact ho
theorem OwnS.push {W1 wr w1 : World} {v v' : Value} {st : List (List UInt8)} {p : List UInt8} (o : Obj) (h : OwnS W1 wr v st) (ho : w1.ownsRow W1.heap.size 9 1 v' (st.length + 1) (strV st ++ [Value.string ⟨p.toArray⟩]))
    (hg : (wr.alloc o).grownBy w1 v.ownBlock) : OwnS W1 w1 v' (st ++ [p]) := by
  refine ⟨Below.grown (Reach.alloc h.1 o) hg (by rw [World.size_alloc]; have := h.1.size; omega) (fun k hk => ?_), ?_⟩
  · obtain ⟨_, _, h2⟩ := h
    rcases h2 with ⟨a, b⟩ | ⟨g, cap, cur, a, b, _⟩
    · rw [a] at hk; cases hk
    · rw [a] at hk; cases hk; exact b
  · have e1 : strV (st ++ [p]) = strV st ++ [Value.string ⟨p.toArray⟩] := by simp [strV]
    rw [e1, List.length_append]
    exact ho
theorem info_str : (Tryz.prog.info? 9).map (fun i => (i.zero, i.size, i.bytes)) = some (some (.string ByteArray.empty), 1, 16) := by kernel_rfl
theorem OwnS.alloc {W1 wr : World} {v : Value} {st : List (List UInt8)} (h : OwnS W1 wr v st) (o : Obj) : (wr.alloc o).ownsRow W1.heap.size 9 1 v st.length (strV st) := h.2.alloc o

theorem OwnS.cellAt {W1 wr : World} {g cap : Nat} {st : List (List UInt8)} (h : OwnS W1 wr (.slice (some ⟨g, 0, none⟩) st.length cap) st) :
    g < wr.heap.size ∧ ∀ j x, (st.map fun l => (⟨l.toArray⟩ : ByteArray))[j]? = some x → wr.cell? ⟨g, 0 + j, none⟩ = some (.string x) := by
  obtain ⟨hr, h1, h2⟩ := h
  rcases h2 with ⟨a, _⟩ | ⟨g', cap', cur, a, b, c, d, e, f, tk⟩
  · cases a
  · cases a
    refine ⟨(Array.getElem?_eq_some_iff.1 c).1, fun j x hj => ?_⟩
    rw [List.getElem?_map, Option.map_eq_some_iff] at hj
    obtain ⟨y, hy, rfl⟩ := hj
    have hjl : j < st.length := (List.getElem?_eq_some_iff.1 hy).1
    have e1 : (strV st)[j]? = some (Value.string ⟨y.toArray⟩) := by simp [strV, hy]
    rw [← tk, List.getElem?_take, if_pos (by omega)] at e1
    simp only [World.cell?, c, Nat.zero_add]
    simpa using e1
theorem join_calls {W1 wr : World} {v : Value} {st : List (List UInt8)} (h : OwnS W1 wr v st) (hl : totalL st + st.length ≤ 140737488355328) :
    Calls Tryz.prog 106 #[v, .string ⟨#[47]⟩] wr fun e w' => e = .returned (.string ⟨(Lib.join st [47]).toArray⟩) ∧ Reach wr w' := by
  rcases h.cases with ⟨rfl, rfl⟩ | ⟨g, cap, rfl, hcap, hmx⟩
  · exact (Tryz.strings_Join_none none 0 ⟨#[47]⟩ wr).mono fun e w' ⟨he, hw⟩ => ⟨he, by rw [hw]; exact Reach.refl _⟩
  · obtain ⟨hg, hc⟩ := h.cellAt
    have hjl := join_length st 47
    have e1 : ((st.map fun l => (⟨l.toArray⟩ : ByteArray)).map (·.data.toList)) = st := by simp [Function.comp_def]
    have := Tryz.strings_Join g 0 cap (st.map fun l => (⟨l.toArray⟩ : ByteArray)) ⟨#[47]⟩ wr hc hg (by rw [List.length_map]; omega) (by rw [List.length_map]; exact hcap) (by
      rw [e1]
      show (Lib.join st [47]).length ≤ _
      omega)
    rw [e1, List.length_map] at this
    exact this
theorem max_neg : max (0 : Int) (-1) = 0 := by decide
theorem max_nat (m : Nat) : max (0 : Int) (m : Int) = m := by omega
attribute [local go_sem] max_neg max_nat
set_option maxRecDepth 100000 in
set_option maxHeartbeats 2000000 in
theorem clean_calls (l : List UInt8) (w : World) (hs : l.length ≤ 1000000) (hE : Env w) :
    Calls Tryz.prog 75 #[.string ⟨l.toArray⟩] w fun e w' => e = .returned (.string ⟨(cleanL l).toArray⟩) ∧ Reach w w' := by
  by_cases hp : Lib.hasPrefix l [47] = true
  · obtain ⟨r, rfl⟩ : ∃ r, l = 47 :: r := by
      cases l with
      | nil => simp [Lib.hasPrefix] at hp
      | cons b r => simp [Lib.hasPrefix] at hp; exact ⟨r, by rw [hp]⟩
    have hr : r.length ≤ 1000000 := by simp at hs; omega
    have HE := Lib.hid hE
    have hlen := splitC_length 47 r
    have HS := Lib.hid (fun W hE => split_calls r 47 W hr hE)
    generalize hps : splitC 47 r = ps at HS hlen
    have Hps := Lib.hid hps
    clear hps
    go_enter Tryz.func75, Tryz.ntmps75
    go_wp2_with (first | (go_at_call 47; (with_reducible refine Calls.mono (hasPre_calls _ _ _) ?_); rintro e w' ⟨rfl, rfl⟩) | (go_at_call 105; (with_reducible refine Calls.mono (HS.out _ HE.out) ?_); rintro e w' ⟨rfl, rfl⟩))
    have h0 := OwnS.nil (w.alloc (.cells (strV ps).toArray 9))
    have hc0 : ∀ j (h : j < ps.length), (w.alloc (.cells (strV ps).toArray 9)).cell? ⟨w.heap.size, j, none⟩ = some (.string ⟨(ps[j]).toArray⟩) := fun j h => by
      simp [World.cell?, World.alloc, strV, h, -World.alloc_eq]
    have hlt0 : w.heap.size < (w.alloc (.cells (strV ps).toArray 9)).heap.size := by simp
    have hr0 : Reach w (w.alloc (.cells (strV ps).toArray 9)) := Reach.alloc (Reach.refl w) _
    generalize w.alloc (.cells (strV ps).toArray 9) = W1 at h0 hc0 hlt0 hr0 ⊢
    have H0 := Lib.hid h0
    have HC0 := Lib.hid hc0
    have HR0 := Lib.hid hr0
    clear h0 hc0 hr0
    go_loopw [4, 5, 6, 15] (fun v _ _ i wr => ∃ k : Nat, k ≤ ps.length ∧ i = .int .i64 k ∧ OwnS W1 wr v (cleanStk ps k)) (fun _ _ _ i _ => ps.length - (intOf i).toNat)
    case atStart => exact ⟨0, Nat.zero_le _, rfl, H0.out⟩
    case round =>
      obtain ⟨k, hk, rfl, hrel⟩ := hrel
      by_cases hlt : k < ps.length
      · have hcell : wr.cell? ⟨w.heap.size, k, none⟩ = some (.string ⟨(ps[k]).toArray⟩) := by
          rw [(Reach.facts hrel.1).1 _ _ hlt0]; exact HC0.out k hlt
        have hsz : W1.heap.size ≤ wr.heap.size := hrel.1.size
        have hst := cleanStk_length ps k
        have hnext : cleanStk ps (k + 1) = cleanStep (decide (k + 1 = ps.length)) (cleanStk ps k) ps[k] := by
          simp [cleanStk, List.getD_eq_getElem?_getD, List.getElem?_eq_getElem hlt]
        obtain ⟨i0, hi, hz0, hz1, hz2⟩ := info_parts info_str
        generalize ps[k] = p at hcell hnext
        generalize cleanStk ps k = st at hrel hst hnext
        have HN := Lib.hid hnext
        have HR := Lib.hid hrel
        clear hnext
        have hsz2 := Lib.hid hsz
        rcases hrel.cases with ⟨rfl, rfl⟩ | ⟨g, cap, rfl, hcap1, hcap2⟩
        · clear hrel
          by_cases h1 : p = [46, 46]
          · have hb1 : (p == [46, 46]) = true := by simp [h1]
            have P1 := Lib.hid h1
            clear h1
            by_cases hl : k + 1 = ps.length
            · have hbl : ((k : Int) == (ps.length : Int) - 1) = true := by rw [beq_iff_eq]; omega
              have L1 := Lib.hid hl
              clear hl
              go_wp2_with (first | (at_builtin; refine wpList_append_own _ rfl _ _ 84 rfl W1.heap.size 9 i0 (.string ByteArray.empty) 1 16 Tryz.underlying84 hi hz0 hz1 hz2 rfl (by decide) _ _ _ rfl (OwnS.alloc HR.out _) ⟨wr.heap.size, 0, none⟩ 1 1 [.string ⟨([]).toArray⟩] rfl rfl (cell_one_new _ _ _) (by simp [Value.oneCell']) (by first | (unfold maxLen; omega) | ((try simp only [List.length_append, List.length_cons, List.length_nil]); unfold maxLen; omega)) (by first | omega | ((try simp only [List.length_append, List.length_cons, List.length_nil]); omega)) (by rw [World.size_alloc]; have := hsz2.out; omega) ?_; intro v' w1 hown1 hgrow1 _))
              refine ⟨⟨k + 1, by omega, by go_num, ?_⟩, by simp [intOf]; omega⟩
              rw [HN.out, cleanStep, if_pos P1.out, if_pos (by simpa using L1.out)]
              exact OwnS.push _ HR.out hown1 hgrow1
            · have hbl : ((k : Int) == (ps.length : Int) - 1) = false := by rw [beq_eq_false_iff_ne]; omega
              have L1 := Lib.hid hl
              clear hl
              go_wp2
              refine ⟨⟨k + 1, by omega, by go_num, ?_⟩, by simp [intOf]; omega⟩
              rw [HN.out, cleanStep, if_pos P1.out, if_neg (by simpa using L1.out)]
              exact HR.out
          · have hb1 : (p == [46, 46]) = false := by simp [h1]
            have N1 := Lib.hid h1
            clear h1
            by_cases h2 : p = [46]
            · have hb2 : (p == [46]) = true := by simp [h2]
              have P2 := Lib.hid h2
              clear h2
              by_cases hl : k + 1 = ps.length
              · have hbl : ((k : Int) == (ps.length : Int) - 1) = true := by rw [beq_iff_eq]; omega
                have L1 := Lib.hid hl
                clear hl
                go_wp2_with (first | (at_builtin; refine wpList_append_own _ rfl _ _ 84 rfl W1.heap.size 9 i0 (.string ByteArray.empty) 1 16 Tryz.underlying84 hi hz0 hz1 hz2 rfl (by decide) _ _ _ rfl (OwnS.alloc HR.out _) ⟨wr.heap.size, 0, none⟩ 1 1 [.string ⟨([]).toArray⟩] rfl rfl (cell_one_new _ _ _) (by simp [Value.oneCell']) (by first | (unfold maxLen; omega) | ((try simp only [List.length_append, List.length_cons, List.length_nil]); unfold maxLen; omega)) (by first | omega | ((try simp only [List.length_append, List.length_cons, List.length_nil]); omega)) (by rw [World.size_alloc]; have := hsz2.out; omega) ?_; intro v' w1 hown1 hgrow1 _))
                refine ⟨⟨k + 1, by omega, by go_num, ?_⟩, by simp [intOf]; omega⟩
                rw [HN.out, cleanStep, if_neg N1.out, if_pos P2.out, if_pos (by simpa using L1.out)]
                exact OwnS.push _ HR.out hown1 hgrow1
              · have hbl : ((k : Int) == (ps.length : Int) - 1) = false := by rw [beq_eq_false_iff_ne]; omega
                have L1 := Lib.hid hl
                clear hl
                go_wp2
                refine ⟨⟨k + 1, by omega, by go_num, ?_⟩, by simp [intOf]; omega⟩
                rw [HN.out, cleanStep, if_neg N1.out, if_pos P2.out, if_neg (by simpa using L1.out)]
                exact HR.out
            · have hb2 : (p == [46]) = false := by simp [h2]
              have N2 := Lib.hid h2
              clear h2
              go_wp2_with (first | (at_builtin; refine wpList_append_own _ rfl _ _ 84 rfl W1.heap.size 9 i0 (.string ByteArray.empty) 1 16 Tryz.underlying84 hi hz0 hz1 hz2 rfl (by decide) _ _ _ rfl (OwnS.alloc HR.out _) ⟨wr.heap.size, 0, none⟩ 1 1 [.string ⟨(p).toArray⟩] rfl rfl (cell_one_new _ _ _) (by simp [Value.oneCell']) (by first | (unfold maxLen; omega) | ((try simp only [List.length_append, List.length_cons, List.length_nil]); unfold maxLen; omega)) (by first | omega | ((try simp only [List.length_append, List.length_cons, List.length_nil]); omega)) (by rw [World.size_alloc]; have := hsz2.out; omega) ?_; intro v' w1 hown1 hgrow1 _))
              refine ⟨⟨k + 1, by omega, by go_num, ?_⟩, by simp [intOf]; omega⟩
              rw [HN.out, cleanStep, if_neg N1.out, if_neg N2.out]
              exact OwnS.push _ HR.out hown1 hgrow1
        · unfold maxLen at hcap2
          clear hrel
          by_cases hst0 : st = []
          · subst hst0
            simp only [List.length_nil] at hcap1
            by_cases h1 : p = [46, 46]
            · have hb1 : (p == [46, 46]) = true := by simp [h1]
              have P1 := Lib.hid h1
              clear h1
              by_cases hl : k + 1 = ps.length
              · have hbl : ((k : Int) == (ps.length : Int) - 1) = true := by rw [beq_iff_eq]; omega
                have L1 := Lib.hid hl
                clear hl
                go_wp2_with (first | (at_builtin; refine wpList_append_own _ rfl _ _ 84 rfl W1.heap.size 9 i0 (.string ByteArray.empty) 1 16 Tryz.underlying84 hi hz0 hz1 hz2 rfl (by decide) _ _ _ rfl (OwnS.alloc HR.out _) ⟨wr.heap.size, 0, none⟩ 1 1 [.string ⟨([]).toArray⟩] rfl rfl (cell_one_new _ _ _) (by simp [Value.oneCell']) (by first | (unfold maxLen; omega) | ((try simp only [List.length_append, List.length_cons, List.length_nil]); unfold maxLen; omega)) (by first | omega | ((try simp only [List.length_append, List.length_cons, List.length_nil]); omega)) (by rw [World.size_alloc]; have := hsz2.out; omega) ?_; intro v' w1 hown1 hgrow1 _))
                refine ⟨⟨k + 1, by omega, by go_num, ?_⟩, by simp [intOf]; omega⟩
                rw [HN.out, cleanStep, if_pos P1.out, if_pos (by simpa using L1.out)]
                exact OwnS.push _ HR.out hown1 hgrow1
              · have hbl : ((k : Int) == (ps.length : Int) - 1) = false := by rw [beq_eq_false_iff_ne]; omega
                have L1 := Lib.hid hl
                clear hl
                go_wp2
                refine ⟨⟨k + 1, by omega, by go_num, ?_⟩, by simp [intOf]; omega⟩
                rw [HN.out, cleanStep, if_pos P1.out, if_neg (by simpa using L1.out)]
                exact HR.out
            · have hb1 : (p == [46, 46]) = false := by simp [h1]
              have N1 := Lib.hid h1
              clear h1
              by_cases h2 : p = [46]
              · have hb2 : (p == [46]) = true := by simp [h2]
                have P2 := Lib.hid h2
                clear h2
                by_cases hl : k + 1 = ps.length
                · have hbl : ((k : Int) == (ps.length : Int) - 1) = true := by rw [beq_iff_eq]; omega
                  have L1 := Lib.hid hl
                  clear hl
                  go_wp2_with (first | (at_builtin; refine wpList_append_own _ rfl _ _ 84 rfl W1.heap.size 9 i0 (.string ByteArray.empty) 1 16 Tryz.underlying84 hi hz0 hz1 hz2 rfl (by decide) _ _ _ rfl (OwnS.alloc HR.out _) ⟨wr.heap.size, 0, none⟩ 1 1 [.string ⟨([]).toArray⟩] rfl rfl (cell_one_new _ _ _) (by simp [Value.oneCell']) (by first | (unfold maxLen; omega) | ((try simp only [List.length_append, List.length_cons, List.length_nil]); unfold maxLen; omega)) (by first | omega | ((try simp only [List.length_append, List.length_cons, List.length_nil]); omega)) (by rw [World.size_alloc]; have := hsz2.out; omega) ?_; intro v' w1 hown1 hgrow1 _))
                  refine ⟨⟨k + 1, by omega, by go_num, ?_⟩, by simp [intOf]; omega⟩
                  rw [HN.out, cleanStep, if_neg N1.out, if_pos P2.out, if_pos (by simpa using L1.out)]
                  exact OwnS.push _ HR.out hown1 hgrow1
                · have hbl : ((k : Int) == (ps.length : Int) - 1) = false := by rw [beq_eq_false_iff_ne]; omega
                  have L1 := Lib.hid hl
                  clear hl
                  go_wp2
                  refine ⟨⟨k + 1, by omega, by go_num, ?_⟩, by simp [intOf]; omega⟩
                  rw [HN.out, cleanStep, if_neg N1.out, if_pos P2.out, if_neg (by simpa using L1.out)]
                  exact HR.out
              · have hb2 : (p == [46]) = false := by simp [h2]
                have N2 := Lib.hid h2
                clear h2
                go_wp2_with (first | (at_builtin; refine wpList_append_own _ rfl _ _ 84 rfl W1.heap.size 9 i0 (.string ByteArray.empty) 1 16 Tryz.underlying84 hi hz0 hz1 hz2 rfl (by decide) _ _ _ rfl (OwnS.alloc HR.out _) ⟨wr.heap.size, 0, none⟩ 1 1 [.string ⟨(p).toArray⟩] rfl rfl (cell_one_new _ _ _) (by simp [Value.oneCell']) (by first | (unfold maxLen; omega) | ((try simp only [List.length_append, List.length_cons, List.length_nil]); unfold maxLen; omega)) (by first | omega | ((try simp only [List.length_append, List.length_cons, List.length_nil]); omega)) (by rw [World.size_alloc]; have := hsz2.out; omega) ?_; intro v' w1 hown1 hgrow1 _))
                refine ⟨⟨k + 1, by omega, by go_num, ?_⟩, by simp [intOf]; omega⟩
                rw [HN.out, cleanStep, if_neg N1.out, if_neg N2.out]
                exact OwnS.push _ HR.out hown1 hgrow1
          · obtain ⟨ys, y, rfl⟩ : ∃ ys y, st = ys ++ [y] := ⟨st.dropLast, st.getLast hst0, (List.dropLast_concat_getLast hst0).symm⟩
            have hpop := OwnS.pop hst0 HR.out
            have e1 : (ys ++ [y]).length = ys.length + 1 := by simp
            rw [List.dropLast_concat, e1, Nat.add_sub_cancel] at hpop
            have HP := Lib.hid hpop
            have hrw := HR.out
            rw [e1] at hrw hcap1 hst
            simp only [e1]
            have HR := Lib.hid hrw
            have hdl := List.dropLast_concat (l₁ := ys) (b := y)
            have HD := Lib.hid hdl
            clear hdl hrw hpop e1
            clear hst0
            by_cases h1 : p = [46, 46]
            · have hb1 : (p == [46, 46]) = true := by simp [h1]
              have P1 := Lib.hid h1
              clear h1
              by_cases hl : k + 1 = ps.length
              · have hbl : ((k : Int) == (ps.length : Int) - 1) = true := by rw [beq_iff_eq]; omega
                have L1 := Lib.hid hl
                clear hl
                go_wp2_with (first | (at_builtin; refine wpList_append_own _ rfl _ _ 84 rfl W1.heap.size 9 i0 (.string ByteArray.empty) 1 16 Tryz.underlying84 hi hz0 hz1 hz2 rfl (by decide) _ _ _ rfl (OwnS.alloc HP.out _) ⟨wr.heap.size, 0, none⟩ 1 1 [.string ⟨([]).toArray⟩] rfl rfl (cell_one_new _ _ _) (by simp [Value.oneCell']) (by first | (unfold maxLen; omega) | ((try simp only [List.length_append, List.length_cons, List.length_nil]); unfold maxLen; omega)) (by first | omega | ((try simp only [List.length_append, List.length_cons, List.length_nil]); omega)) (by rw [World.size_alloc]; have := hsz2.out; omega) ?_; intro v' w1 hown1 hgrow1 _))
                refine ⟨⟨k + 1, by omega, by go_num, ?_⟩, by simp [intOf]; omega⟩
                rw [HN.out, cleanStep, if_pos P1.out, if_pos (by simpa using L1.out), HD.out]
                exact OwnS.push _ HP.out hown1 hgrow1
              · have hbl : ((k : Int) == (ps.length : Int) - 1) = false := by rw [beq_eq_false_iff_ne]; omega
                have L1 := Lib.hid hl
                clear hl
                go_wp2
                refine ⟨⟨k + 1, by omega, by go_num, ?_⟩, by simp [intOf]; omega⟩
                rw [HN.out, cleanStep, if_pos P1.out, if_neg (by simpa using L1.out), HD.out]
                exact HP.out
            · have hb1 : (p == [46, 46]) = false := by simp [h1]
              have N1 := Lib.hid h1
              clear h1
              by_cases h2 : p = [46]
              · have hb2 : (p == [46]) = true := by simp [h2]
                have P2 := Lib.hid h2
                clear h2
                by_cases hl : k + 1 = ps.length
                · have hbl : ((k : Int) == (ps.length : Int) - 1) = true := by rw [beq_iff_eq]; omega
                  have L1 := Lib.hid hl
                  clear hl
                  go_wp2_with (first | (at_builtin; refine wpList_append_own _ rfl _ _ 84 rfl W1.heap.size 9 i0 (.string ByteArray.empty) 1 16 Tryz.underlying84 hi hz0 hz1 hz2 rfl (by decide) _ _ _ rfl (OwnS.alloc HR.out _) ⟨wr.heap.size, 0, none⟩ 1 1 [.string ⟨([]).toArray⟩] rfl rfl (cell_one_new _ _ _) (by simp [Value.oneCell']) (by first | (unfold maxLen; omega) | ((try simp only [List.length_append, List.length_cons, List.length_nil]); unfold maxLen; omega)) (by first | omega | ((try simp only [List.length_append, List.length_cons, List.length_nil]); omega)) (by rw [World.size_alloc]; have := hsz2.out; omega) ?_; intro v' w1 hown1 hgrow1 _))
                  refine ⟨⟨k + 1, by omega, by go_num, ?_⟩, by simp [intOf]; omega⟩
                  rw [HN.out, cleanStep, if_neg N1.out, if_pos P2.out, if_pos (by simpa using L1.out)]
                  exact OwnS.push _ HR.out hown1 hgrow1
                · have hbl : ((k : Int) == (ps.length : Int) - 1) = false := by rw [beq_eq_false_iff_ne]; omega
                  have L1 := Lib.hid hl
                  clear hl
                  go_wp2
                  refine ⟨⟨k + 1, by omega, by go_num, ?_⟩, by simp [intOf]; omega⟩
                  rw [HN.out, cleanStep, if_neg N1.out, if_pos P2.out, if_neg (by simpa using L1.out)]
                  exact HR.out
              · have hb2 : (p == [46]) = false := by simp [h2]
                have N2 := Lib.hid h2
                clear h2
                go_wp2_with (first | (at_builtin; refine wpList_append_own _ rfl _ _ 84 rfl W1.heap.size 9 i0 (.string ByteArray.empty) 1 16 Tryz.underlying84 hi hz0 hz1 hz2 rfl (by decide) _ _ _ rfl (OwnS.alloc HR.out _) ⟨wr.heap.size, 0, none⟩ 1 1 [.string ⟨(p).toArray⟩] rfl rfl (cell_one_new _ _ _) (by simp [Value.oneCell']) (by first | (unfold maxLen; omega) | ((try simp only [List.length_append, List.length_cons, List.length_nil]); unfold maxLen; omega)) (by first | omega | ((try simp only [List.length_append, List.length_cons, List.length_nil]); omega)) (by rw [World.size_alloc]; have := hsz2.out; omega) ?_; intro v' w1 hown1 hgrow1 _))
                refine ⟨⟨k + 1, by omega, by go_num, ?_⟩, by simp [intOf]; omega⟩
                rw [HN.out, cleanStep, if_neg N1.out, if_neg N2.out]
                exact OwnS.push _ HR.out hown1 hgrow1
      · have hk2 : k = ps.length := by omega
        subst hk2
        have ht := totalL_cleanStk ps ps.length (Nat.le_refl _)
        rw [List.take_length] at ht
        have ht2 := totalL_splitC 47 r
        rw [Hps.out] at ht2
        have hst := cleanStk_length ps ps.length
        have HJ := Lib.hid (join_calls hrel (by omega))
        have hjl := join_length (cleanStk ps ps.length) 47
        have hjl2 : (Lib.join (cleanStk ps ps.length) [47]).length ≤ 3000000 := by omega
        clear hjl
        have hcl : cleanL (47 :: r) = 47 :: Lib.join (cleanStk ps ps.length) [47] := by rw [cleanL_cons, Hps.out]
        have Hcl := Lib.hid hcl
        have hr1 := hrel.1
        have hR : Reach w wr := Reach.trans HR0.out hr1
        clear hcl ht ht2 hst hr1 hrel hlt hk
        generalize cleanStk ps ps.length = st at HJ Hcl hjl2
        go_wp2_with (first | (go_at_call 106; (with_reducible refine Calls.mono HJ.out ?_); rintro e w' ⟨rfl, hb⟩; obtain ⟨hc, hf, hz⟩ := Reach.facts hb))
        go_ret
        exact ⟨ret_string (by rw [Hcl.out]), Reach.trans hR hb⟩
  · have hp' : Lib.hasPrefix l [47] = false := by simpa using hp
    have hcl : cleanL l = [] := by
      cases l with
      | nil => rfl
      | cons b r =>
        unfold cleanL
        split
        · rename_i e; cases e; simp [Lib.hasPrefix] at hp
        · rfl
    have Hcl := Lib.hid hcl
    clear hcl hp
    go_enter Tryz.func75, Tryz.ntmps75
    go_wp2_with (first | (go_at_call 47; (with_reducible refine Calls.mono (hasPre_calls _ _ _) ?_); rintro e w' ⟨rfl, rfl⟩))
    go_ret
    exact ⟨ret_string Hcl.out.symm, Reach.refl _⟩
end Go.Proofs.YtbeaheicjopooaaGreatDoor
