/- What package url's Parse answers, for texts of at most four hundred thousand bytes. -/
import Derived.Test.YtbeaheicjopooaaGreatDoorProg
import Derived.Test.YtbeaheicjopooaaGreatDoorRanked
import Derived.Test.YtbeaheicjopooaaGreatDoorPure
namespace Go.Proofs.YtbeaheicjopooaaGreatDoor
open Go.RowKit Go.Sort
attribute [local go_sem] get_mk mk_append mk_extract0 mk_extract_end mk_extract_cons empty_mk cell_grow frozen_grow size_grow

theorem Env.keep {w w' : World} {b : Nat} (h : Env w) (k : Keep b w w') (hb : NG ≤ b) : Env w' := by
  have hk : ∀ i, i < NG → w'.heap[i]? = w.heap[i]? := fun i hi => k.2.2.2.2 i (Nat.lt_of_lt_of_le hi h.size) (by omega)
  refine ⟨Nat.le_trans h.size k.2.2.2.1, ?_, Nat.lt_of_lt_of_le h.powg k.2.2.2.1, ?_⟩
  · have hg : Tryz.prog.globalNamed "internal/strconv.uint64pow10" = some 4 := by kernel_rfl
    have := h.pow
    unfold Lib.TabIs World.var? at this ⊢
    simp only [hg, Option.bind_some] at this ⊢
    rw [hk _ (by decide)]
    exact this
  · obtain ⟨m, hm⟩ := h.maxl
    refine ⟨m, ?_⟩
    have e : w'.cell? ⟨0, 0, none⟩ = w.cell? ⟨0, 0, none⟩ := World.cell?_of_block (hk _ (by decide))
    rw [e]; exact hm
/-- The result's cells, as they are laid. -/
def ResBlk (w : World) (R : Nat) : Prop := w.heap[R]? = some (.cells #[.bool false, .string ⟨#[]⟩, .string ⟨#[]⟩, .int .i64 0, .string ⟨#[]⟩, .string ⟨#[]⟩] 23 (0, 0))
theorem ResBlk.lt {w : World} {R : Nat} (h : ResBlk w R) : R < w.heap.size := (Array.getElem?_eq_some_iff.1 h).1
theorem ResBlk.reach {w w' : World} {R : Nat} (h : ResBlk w R) (hr : Reach w w') : ResBlk w' R := (Below.block hr R h.lt).trans h
theorem ResBlk.set {w : World} {R : Nat} (h : ResBlk w R) (p : Addr) (hp : R ≠ p.block) (v : Value) : ResBlk (w.setCell p v) R := (Below.heap_setCell w p v R hp).trans h
theorem ResBlk.keep {w w' : World} {R b : Nat} (h : ResBlk w R) (k : Keep b w w') (hb : R ≠ b) : ResBlk w' R := (k.2.2.2.2 R h.lt hb).trans h
theorem ResBlk.cells {w : World} {R : Nat} (h : ResBlk w R) : w.cell? ⟨R, 0, none⟩ = some (.bool false) ∧ w.cell? ⟨R, 1, none⟩ = some (.string ⟨#[]⟩) ∧ w.cell? ⟨R, 2, none⟩ = some (.string ⟨#[]⟩) ∧ w.cell? ⟨R, 3, none⟩ = some (.int .i64 0) ∧
    w.cell? ⟨R, 4, none⟩ = some (.string ⟨#[]⟩) ∧ w.cell? ⟨R, 5, none⟩ = some (.string ⟨#[]⟩) ∧ ∀ o, w.frozen? ⟨R, o, none⟩ = false := by
  unfold ResBlk at h
  refine ⟨?_, ?_, ?_, ?_, ?_, ?_, fun o => ?_⟩ <;> simp [World.cell?, World.frozen?, h]
theorem ResBlk.new (w : World) : ResBlk (w.alloc (.cells #[.bool false, .string ⟨#[]⟩, .string ⟨#[]⟩, .int .i64 0, .string ⟨#[]⟩, .string ⟨#[]⟩] 23)) w.heap.size := by
  unfold ResBlk
  simp [World.alloc, -World.alloc_eq]
theorem Cells.new (w : World) (f : List UInt8) : Cells (w.alloc (.cells #[.string ⟨f.toArray⟩, .bool false, .string ⟨#[]⟩, .string ⟨#[]⟩, .int .i64 0, .string ⟨#[]⟩, .string ⟨#[]⟩] 76)) w.heap.size f ⟨false, [], [], 0, [], []⟩ := by
  have h : (w.alloc (.cells #[.string ⟨f.toArray⟩, .bool false, .string ⟨#[]⟩, .string ⟨#[]⟩, .int .i64 0, .string ⟨#[]⟩, .string ⟨#[]⟩] 76)).heap[w.heap.size]? = some (.cells #[.string ⟨f.toArray⟩, .bool false, .string ⟨#[]⟩, .string ⟨#[]⟩, .int .i64 0, .string ⟨#[]⟩, .string ⟨#[]⟩] 76 (0, 0)) := by
    simp [World.alloc, -World.alloc_eq]
  have hs : w.heap.size < (w.alloc (.cells #[.string ⟨f.toArray⟩, .bool false, .string ⟨#[]⟩, .string ⟨#[]⟩, .int .i64 0, .string ⟨#[]⟩, .string ⟨#[]⟩] 76)).heap.size := by rw [World.size_alloc]; omega
  revert h hs
  generalize w.alloc (.cells #[.string ⟨f.toArray⟩, .bool false, .string ⟨#[]⟩, .string ⟨#[]⟩, .int .i64 0, .string ⟨#[]⟩, .string ⟨#[]⟩] 76) = W
  intro h hs
  refine ⟨⟨?_, ?_, ?_, ?_, ?_, ?_, ?_⟩, fun o => ?_, hs⟩ <;> simp [World.cell?, World.frozen?, h]

theorem ranked_calls (sch rest : List UInt8) (b : Nat) (w : World) (hc : Cells w b rest ⟨false, sch, [], 0, [], []⟩) (hlen : rest.length ≤ 900000) (hs : sch.length ≤ 900000) (hE : Env w) (hbg : NG ≤ b) :
    Calls Tryz.prog 80 #[.pointer (some ⟨b, 0, none⟩)] w fun e w' => e = .returned (.tuple #[]) ∧ Keep b w w' ∧ ∃ r, Cells w' b r (rankedL sch rest) := by
  cases hp : Lib.hasPrefix rest [47, 47]
  · exact ranked_no sch rest b w hc hp
  · exact ranked_yes sch rest b w hc hp hlen hs hE hbg
set_option maxRecDepth 100000 in
set_option maxHeartbeats 4000000 in
theorem parse_calls (s : List UInt8) (w : World) (hs : s.length ≤ 400000) (hE : Env w) :
    Calls Tryz.prog 32 #[.string ⟨s.toArray⟩] w fun e w' =>
      e = .returned (.tuple #[.agg #[.bool (parseU s).opq, .string ⟨(parseU s).sch.toArray⟩, .string ⟨(parseU s).host.toArray⟩, .int .i64 (parseU s).port, .string ⟨(parseU s).path.toArray⟩, .string ⟨(parseU s).query.toArray⟩], .int .i64 (parseE s)]) ∧ Reach w w' := by
  have l1 := trimL_length s
  have l2 := frontL_length (trimL s) [35]
  have l3 := frontL_length (frontL (trimL s) [35]) [58]
  have l4 := restL_length (frontL (trimL s) [35]) [58]
  have hpb : parseB s = (restL (frontL (trimL s) [35]) [58] != [] && checkB (rawU s)) := rfl
  have hru : rawU s = if defPort (lowerL (frontL (frontL (trimL s) [35]) [58])) = 0 then
    ⟨true, lowerL (frontL (frontL (trimL s) [35]) [58]), [], 0, trimL ((restL (frontL (trimL s) [35]) [58]).drop 1), []⟩
    else rankedL (lowerL (frontL (frontL (trimL s) [35]) [58])) ((restL (frontL (trimL s) [35]) [58]).drop 1) := rfl
  have C0 := fun W => trim_calls s W (by omega)
  have C1 := fun bb o W h1 h2 h3 => cut_calls (trimL s) [35] bb o W (by omega) (by decide) h1 h2 h3
  have C2 := fun bb o W h1 h2 h3 => cut_calls (frontL (trimL s) [35]) [58] bb o W (by omega) (by decide) h1 h2 h3
  generalize hraw : rawU s = ru at hpb hru
  generalize trimL s = ts at *
  generalize frontL ts [35] = f at *
  generalize frontL f [58] = sc at *
  generalize restL f [58] = rs at *
  generalize restL ts [35] = junk at *
  have H0 := Lib.hid C0
  have H1 := Lib.hid C1
  have H2 := Lib.hid C2
  have HPB := Lib.hid hpb
  have HRU := Lib.hid hru
  have HRAW := Lib.hid hraw
  have HE := Lib.hid hE
  clear C0 C1 C2 hpb hru hraw
  go_enter Tryz.func32, Tryz.ntmps32
  go_wp2_with fail
  refine Calls.mono (H0.out _) ?_
  rintro e W1 ⟨rfl, hr1⟩
  have R1 := (ResBlk.new w).reach hr1
  have Q1 : Reach w W1 := Reach.trans (Reach.alloc (Reach.refl w) _) hr1
  clear hr1
  go_wp2_with fail
  refine Calls.mono (H1.out _ _ _ (by first | (with_reducible assumption) | (go_simp; done) | (simp [*]; done)) (by first | (with_reducible assumption) | (go_simp; done) | (simp [*]; done)) (by first | (with_reducible assumption) | (go_simp; done) | (simp [*]; done))) ?_
  rintro e w' ⟨rfl, W2, hr2, rfl⟩
  have n1 := R1.lt
  have R3 := (ResBlk.reach R1 (Reach.trans (Reach.alloc (Reach.refl _) _) hr2)).set ⟨W1.heap.size, 0, none⟩ (by show w.heap.size ≠ W1.heap.size; omega) (.string ⟨junk.toArray⟩)
  have Q3 : Reach w (W2.setCell ⟨W1.heap.size, 0, none⟩ (.string ⟨junk.toArray⟩)) := Reach.setCell (Reach.trans (Reach.alloc Q1 _) hr2) Q1.size _
  clear hr2 Q1 R1 n1
  generalize W2.setCell ⟨W1.heap.size, 0, none⟩ (.string ⟨junk.toArray⟩) = W3 at R3 Q3 ⊢
  go_wp2_with fail
  have HC4 := Cells.new W3 f
  have R4 := R3.reach (Reach.alloc (Reach.refl W3) (.cells #[.string ⟨f.toArray⟩, .bool false, .string ⟨#[]⟩, .string ⟨#[]⟩, .int .i64 0, .string ⟨#[]⟩, .string ⟨#[]⟩] 76))
  have Q4 := Reach.alloc Q3 (.cells #[.string ⟨f.toArray⟩, .bool false, .string ⟨#[]⟩, .string ⟨#[]⟩, .int .i64 0, .string ⟨#[]⟩, .string ⟨#[]⟩] 76)
  have hbw : w.heap.size < W3.heap.size := R3.lt
  clear R3 Q3
  generalize W3.alloc (.cells #[.string ⟨f.toArray⟩, .bool false, .string ⟨#[]⟩, .string ⟨#[]⟩, .int .i64 0, .string ⟨#[]⟩, .string ⟨#[]⟩] 76) = W4 at HC4 R4 Q4 ⊢
  generalize W3.heap.size = b at HC4 hbw ⊢
  have hne : w.heap.size ≠ b := by omega
  have hle : w.heap.size ≤ b := by omega
  have hng : NG ≤ b := Nat.le_trans HE.out.size hle
  obtain ⟨⟨c0, c1, c2, c3, c4, c5, c6⟩, hfr, hb⟩ := id HC4
  refine Calls.mono (H2.out _ _ _ (by first | (with_reducible assumption) | (go_simp; done) | (simp [*]; done)) (by first | (with_reducible assumption) | (go_simp; done) | (simp [*]; done)) (by first | (with_reducible assumption) | (go_simp; done) | (simp [*]; done))) ?_
  rintro e w' ⟨rfl, W5, hr5, rfl⟩
  have HC6 := (HC4.reach hr5).set0 rs
  have R6 := (R4.reach hr5).set ⟨b, 0, none⟩ hne (.string ⟨rs.toArray⟩)
  have Q6 : Reach w (W5.setCell ⟨b, 0, none⟩ (.string ⟨rs.toArray⟩)) := Reach.setCell (Reach.trans Q4 hr5) hle _
  clear hr5 HC4 R4 Q4
  clear c0 c1 c2 c3 c4 c5 c6 hfr hb
  generalize W5.setCell ⟨b, 0, none⟩ (.string ⟨rs.toArray⟩) = W6 at HC6 R6 Q6 ⊢
  go_wp2_with fail
  refine Calls.mono (lower_calls _ _ (by first | (with_reducible assumption) | omega | (simp; done) | (simp; omega))) ?_
  rintro e W7 ⟨rfl, hr7⟩
  have HC7 := HC6.reach hr7
  have R7 := R6.reach hr7
  have Q7 := Reach.trans Q6 hr7
  clear hr7 HC6 R6 Q6
  obtain ⟨⟨c0, c1, c2, c3, c4, c5, c6⟩, hfr, hb⟩ := id HC7
  by_cases hrs : rs = []
  · have hpf : parseB s = false := by rw [HPB.out, hrs]; rfl
    have Hpf := Lib.hid hpf
    clear hpf
    subst hrs
    have HC8 := HC7.set2 (lowerL sc)
    have R8 := R7.set ⟨b, 2, none⟩ hne (.string ⟨(lowerL sc).toArray⟩)
    obtain ⟨r0, r1, r2, r3, r4, r5, rf⟩ := R7.cells
    go_wp2_with fail
    refine bodyPost_ret (v := .tuple #[.agg #[.bool false, .string ⟨#[]⟩, .string ⟨#[]⟩, .int .i64 0, .string ⟨#[]⟩, .string ⟨#[]⟩], .int .i64 50]) (by simp [results, Tryz.results32, go_sem, r0, r1, r2, r3, r4, r5]) rfl ⟨by rw [parseU, parseE, Hpf.out]; rfl, by (repeat (first | (with_reducible assumption) | (with_reducible exact Reach.refl _) | (with_reducible refine Reach.alloc ?_ _) | (with_reducible refine Reach.drew ?_) | (with_reducible refine Reach.drewN ?_ _) | (with_reducible refine Reach.grow ?_ _ _) | (with_reducible refine Reach.setCell ?_ ?_ _) | (with_reducible refine Reach.trans ?_ (by with_reducible assumption)) | (show _ ≤ Addr.block _; first | (exact Nat.le_refl _) | (show (_ : Nat) ≤ _; omega)) | (simp; done) | (simp; omega)))⟩
  · obtain ⟨x, rr, rfl⟩ : ∃ x rr, rs = x :: rr := by
      cases rs with
      | nil => exact absurd rfl hrs
      | cons x rr => exact ⟨x, rr, rfl⟩
    clear hrs
    have hrr : rr.length ≤ 400000 := by simp only [List.length_cons] at l4; omega
    have hsc : (lowerL sc).length ≤ 400000 := by rw [lowerL_length]; omega
    have HX := Lib.hid (show parseB s = checkB ru from by rw [HPB.out]; rfl)
    generalize lowerL sc = ls at *
    have HC8 := HC7.set2 ls
    have R8 := R7.set ⟨b, 2, none⟩ hne (.string ⟨ls.toArray⟩)
    have Q8 : Reach w (W7.setCell ⟨b, 2, none⟩ (.string ⟨ls.toArray⟩)) := Reach.setCell Q7 hle _
    have HC9 := HC8.set0 rr
    have R9 := R8.set ⟨b, 0, none⟩ hne (.string ⟨rr.toArray⟩)
    have Q9 : Reach w ((W7.setCell ⟨b, 2, none⟩ (.string ⟨ls.toArray⟩)).setCell ⟨b, 0, none⟩ (.string ⟨rr.toArray⟩)) := Reach.setCell Q8 hle _
    by_cases hdp : defPort ls = 0
    · have hdb : (defPort ls != 0) = false := by simp [hdp]
      have hru : ru = ⟨true, ls, [], 0, trimL rr, []⟩ := by rw [HRU.out, if_pos hdp]; rfl
      clear hdp HRU HPB
      subst hru
      go_wp2_with (first | (go_at_call 56; (with_reducible refine Calls.mono (default_calls _ _) ?_); rintro e w' ⟨rfl, rfl⟩))
      clear c0 c1 c2 c3 c4 c5 c6 hfr hb HC7 R7 Q7 HC8 R8 Q8
      generalize (W7.setCell ⟨b, 2, none⟩ (.string ⟨ls.toArray⟩)).setCell ⟨b, 0, none⟩ (.string ⟨rr.toArray⟩) = W9 at HC9 R9 Q9 ⊢
      have htl := trimL_length rr
      refine Calls.mono (trim_calls _ _ (by first | (with_reducible assumption) | omega | (simp; done) | (simp; omega))) ?_
      rintro e W10 ⟨rfl, hr10⟩
      have HC10 := HC9.reach hr10
      have R10 := R9.reach hr10
      have Q10 := Reach.trans Q9 hr10
      obtain ⟨⟨c0, c1, c2, c3, c4, c5, c6⟩, hfr, hb⟩ := id HC10
      have HC := (HC10.set1 true).set5 (trimL rr)
      have R := (R10.set ⟨b, 1, none⟩ hne (.bool true)).set ⟨b, 5, none⟩ hne (.string ⟨(trimL rr).toArray⟩)
      have Q : Reach w ((W10.setCell ⟨b, 1, none⟩ (.bool true)).setCell ⟨b, 5, none⟩ (.string ⟨(trimL rr).toArray⟩)) := Reach.setCell (Reach.setCell Q10 hle _) hle _
      go_wp2_with fail
      clear c0 c1 c2 c3 c4 c5 c6 hfr hb HC9 R9 Q9 HC10 R10 Q10 hr10
      generalize (W10.setCell ⟨b, 1, none⟩ (.bool true)).setCell ⟨b, 5, none⟩ (.string ⟨(trimL rr).toArray⟩) = W at HC R Q ⊢
      generalize trimL rr = tr at *
      have bs : ls.length ≤ 1000000 := by omega
      have bh : ([] : List UInt8).length ≤ 1000000 := by simp
      have bp : tr.length ≤ 1000000 := by omega
      have bq : ([] : List UInt8).length ≤ 1000000 := by simp
      have HEW := Lib.hid (Env.reach HE.out Q)
      obtain ⟨r0, r1, r2, r3, r4, r5, rf⟩ := R.cells
      have hlt := R.lt
      obtain ⟨⟨c0, c1, c2, c3, c4, c5, c6⟩, hfr, hb⟩ := id HC
      simp only at c0 c1 c2 c3 c4 c5 c6
      by_cases hck : checkB ⟨true, ls, [], 0, tr, []⟩ = true
      · have hpt : parseB s = true := by rw [HX.out, hck]
        have hpu : parseU s = ⟨true, ls, [], 0, tr, []⟩ := by rw [parseU, if_pos hpt]; exact HRAW.out
        have hpe : parseE s = 0 := by rw [parseE, hpt]; rfl
        have Hpu := Lib.hid hpu
        have Hpe := Lib.hid hpe
        have hx := fun W hE => check_calls true ls [] 0 tr [] W (by omega) (by omega) bs bh bp bq hE
        have hc1 : checkE ⟨true, ls, [], 0, tr, []⟩ = 0 := by rw [checkE, hck]; rfl
        simp only [hc1] at hx
        have HXC := Lib.hid (hx _ HEW.out)
        clear hx hc1 hpt hpu hpe hck
        go_wp2_with fail
        refine Calls.mono HXC.out ?_
        rintro e WC ⟨rfl, hrc⟩
        have RC := R.reach hrc
        have HCC := HC.reach hrc
        have QC := Reach.trans Q hrc
        clear r0 r1 r2 r3 r4 r5 rf hlt c0 c1 c2 c3 c4 c5 c6 hfr hb hrc
        obtain ⟨r0, r1, r2, r3, r4, r5, rf⟩ := RC.cells
        obtain ⟨⟨c0, c1, c2, c3, c4, c5, c6⟩, hfr, hb⟩ := id HCC
        simp only at c0 c1 c2 c3 c4 c5 c6
        go_wp2_with fail
        refine bodyPost_ret (v := .tuple #[.agg #[.bool true, .string ⟨(ls : List UInt8).toArray⟩, .string ⟨([] : List UInt8).toArray⟩, .int .i64 0, .string ⟨(tr : List UInt8).toArray⟩, .string ⟨([] : List UInt8).toArray⟩], .int .i64 0]) (by simp [results, Tryz.results32, go_sem, r0, r1, r2, r3, r4, r5]) rfl ⟨by rw [Hpu.out, Hpe.out], by (repeat (first | (with_reducible assumption) | (with_reducible exact Reach.refl _) | (with_reducible refine Reach.alloc ?_ _) | (with_reducible refine Reach.drew ?_) | (with_reducible refine Reach.drewN ?_ _) | (with_reducible refine Reach.grow ?_ _ _) | (with_reducible refine Reach.setCell ?_ ?_ _) | (with_reducible refine Reach.trans ?_ (by with_reducible assumption)) | (show _ ≤ Addr.block _; first | (exact Nat.le_refl _) | (show (_ : Nat) ≤ _; omega)) | (simp; done) | (simp; omega)))⟩
      · have hcf : checkB ⟨true, ls, [], 0, tr, []⟩ = false := by simpa using hck
        have hpf : parseB s = false := by rw [HX.out, hcf]
        have Hpf := Lib.hid hpf
        have hx := fun W hE => check_calls true ls [] 0 tr [] W (by omega) (by omega) bs bh bp bq hE
        have hc1 : checkE ⟨true, ls, [], 0, tr, []⟩ = 50 := by rw [checkE, hcf]; rfl
        simp only [hc1] at hx
        have HXC := Lib.hid (hx _ HEW.out)
        clear hx hc1 hpf hck hcf
        go_wp2_with fail
        refine Calls.mono HXC.out ?_
        rintro e WC ⟨rfl, hrc⟩
        have RC := R.reach hrc
        have QC := Reach.trans Q hrc
        clear r0 r1 r2 r3 r4 r5 rf hlt c0 c1 c2 c3 c4 c5 c6 hfr hb hrc
        obtain ⟨r0, r1, r2, r3, r4, r5, rf⟩ := RC.cells
        go_wp2_with fail
        refine bodyPost_ret (v := .tuple #[.agg #[.bool false, .string ⟨#[]⟩, .string ⟨#[]⟩, .int .i64 0, .string ⟨#[]⟩, .string ⟨#[]⟩], .int .i64 50]) (by simp [results, Tryz.results32, go_sem, r0, r1, r2, r3, r4, r5]) rfl ⟨by rw [parseU, parseE, Hpf.out]; rfl, by (repeat (first | (with_reducible assumption) | (with_reducible exact Reach.refl _) | (with_reducible refine Reach.alloc ?_ _) | (with_reducible refine Reach.drew ?_) | (with_reducible refine Reach.drewN ?_ _) | (with_reducible refine Reach.grow ?_ _ _) | (with_reducible refine Reach.setCell ?_ ?_ _) | (with_reducible refine Reach.trans ?_ (by with_reducible assumption)) | (show _ ≤ Addr.block _; first | (exact Nat.le_refl _) | (show (_ : Nat) ≤ _; omega)) | (simp; done) | (simp; omega)))⟩
    · have hdb : (defPort ls != 0) = true := by simp [hdp]
      have hru : ru = rankedL ls rr := by rw [HRU.out, if_neg hdp]; rfl
      clear HRU HPB
      subst hru
      have HDP := Lib.hid hdp
      clear hdp
      go_wp2_with (first | (go_at_call 56; (with_reducible refine Calls.mono (default_calls _ _) ?_); rintro e w' ⟨rfl, rfl⟩))
      clear c0 c1 c2 c3 c4 c5 c6 hfr hb HC7 R7 Q7 HC8 R8 Q8
      generalize (W7.setCell ⟨b, 2, none⟩ (.string ⟨ls.toArray⟩)).setCell ⟨b, 0, none⟩ (.string ⟨rr.toArray⟩) = W9 at HC9 R9 Q9 ⊢
      refine Calls.mono (ranked_calls ls rr b W9 HC9 (by omega) (by omega) (Env.reach HE.out Q9) hng) ?_
      rintro e W ⟨rfl, hk, rl, HC⟩
      have R := R9.keep hk hne
      have Q := hk.toReach Q9 hle
      have hbd := rankedL_bounds ls rr hsc hrr
      clear HC9 R9 Q9 hk
      generalize rankedL ls rr = ru at *
      obtain ⟨ru0, ru1, ru2, ru3, ru4, ru5⟩ := ru
      obtain ⟨bs, bh, bp, bq, p1, p2⟩ := hbd
      simp only at bs bh bp bq p1 p2
      have HEW := Lib.hid (Env.reach HE.out Q)
      obtain ⟨r0, r1, r2, r3, r4, r5, rf⟩ := R.cells
      have hlt := R.lt
      obtain ⟨⟨c0, c1, c2, c3, c4, c5, c6⟩, hfr, hb⟩ := id HC
      simp only at c0 c1 c2 c3 c4 c5 c6
      by_cases hck : checkB ⟨ru0, ru1, ru2, ru3, ru4, ru5⟩ = true
      · have hpt : parseB s = true := by rw [HX.out, hck]
        have hpu : parseU s = ⟨ru0, ru1, ru2, ru3, ru4, ru5⟩ := by rw [parseU, if_pos hpt]; exact HRAW.out
        have hpe : parseE s = 0 := by rw [parseE, hpt]; rfl
        have Hpu := Lib.hid hpu
        have Hpe := Lib.hid hpe
        have hx := fun W hE => check_calls ru0 ru1 ru2 ru3 ru4 ru5 W (by omega) (by omega) bs bh bp bq hE
        have hc1 : checkE ⟨ru0, ru1, ru2, ru3, ru4, ru5⟩ = 0 := by rw [checkE, hck]; rfl
        simp only [hc1] at hx
        have HXC := Lib.hid (hx _ HEW.out)
        clear hx hc1 hpt hpu hpe hck
        go_wp2_with fail
        refine Calls.mono HXC.out ?_
        rintro e WC ⟨rfl, hrc⟩
        have RC := R.reach hrc
        have HCC := HC.reach hrc
        have QC := Reach.trans Q hrc
        clear r0 r1 r2 r3 r4 r5 rf hlt c0 c1 c2 c3 c4 c5 c6 hfr hb hrc
        obtain ⟨r0, r1, r2, r3, r4, r5, rf⟩ := RC.cells
        obtain ⟨⟨c0, c1, c2, c3, c4, c5, c6⟩, hfr, hb⟩ := id HCC
        simp only at c0 c1 c2 c3 c4 c5 c6
        go_wp2_with fail
        refine bodyPost_ret (v := .tuple #[.agg #[.bool ru0, .string ⟨(ru1 : List UInt8).toArray⟩, .string ⟨(ru2 : List UInt8).toArray⟩, .int .i64 ru3, .string ⟨(ru4 : List UInt8).toArray⟩, .string ⟨(ru5 : List UInt8).toArray⟩], .int .i64 0]) (by simp [results, Tryz.results32, go_sem, r0, r1, r2, r3, r4, r5]) rfl ⟨by rw [Hpu.out, Hpe.out], by (repeat (first | (with_reducible assumption) | (with_reducible exact Reach.refl _) | (with_reducible refine Reach.alloc ?_ _) | (with_reducible refine Reach.drew ?_) | (with_reducible refine Reach.drewN ?_ _) | (with_reducible refine Reach.grow ?_ _ _) | (with_reducible refine Reach.setCell ?_ ?_ _) | (with_reducible refine Reach.trans ?_ (by with_reducible assumption)) | (show _ ≤ Addr.block _; first | (exact Nat.le_refl _) | (show (_ : Nat) ≤ _; omega)) | (simp; done) | (simp; omega)))⟩
      · have hcf : checkB ⟨ru0, ru1, ru2, ru3, ru4, ru5⟩ = false := by simpa using hck
        have hpf : parseB s = false := by rw [HX.out, hcf]
        have Hpf := Lib.hid hpf
        have hx := fun W hE => check_calls ru0 ru1 ru2 ru3 ru4 ru5 W (by omega) (by omega) bs bh bp bq hE
        have hc1 : checkE ⟨ru0, ru1, ru2, ru3, ru4, ru5⟩ = 50 := by rw [checkE, hcf]; rfl
        simp only [hc1] at hx
        have HXC := Lib.hid (hx _ HEW.out)
        clear hx hc1 hpf hck hcf
        go_wp2_with fail
        refine Calls.mono HXC.out ?_
        rintro e WC ⟨rfl, hrc⟩
        have RC := R.reach hrc
        have QC := Reach.trans Q hrc
        clear r0 r1 r2 r3 r4 r5 rf hlt c0 c1 c2 c3 c4 c5 c6 hfr hb hrc
        obtain ⟨r0, r1, r2, r3, r4, r5, rf⟩ := RC.cells
        go_wp2_with fail
        refine bodyPost_ret (v := .tuple #[.agg #[.bool false, .string ⟨#[]⟩, .string ⟨#[]⟩, .int .i64 0, .string ⟨#[]⟩, .string ⟨#[]⟩], .int .i64 50]) (by simp [results, Tryz.results32, go_sem, r0, r1, r2, r3, r4, r5]) rfl ⟨by rw [parseU, parseE, Hpf.out]; rfl, by (repeat (first | (with_reducible assumption) | (with_reducible exact Reach.refl _) | (with_reducible refine Reach.alloc ?_ _) | (with_reducible refine Reach.drew ?_) | (with_reducible refine Reach.drewN ?_ _) | (with_reducible refine Reach.grow ?_ _ _) | (with_reducible refine Reach.setCell ?_ ?_ _) | (with_reducible refine Reach.trans ?_ (by with_reducible assumption)) | (show _ ≤ Addr.block _; first | (exact Nat.le_refl _) | (show (_ : Nat) ≤ _; omega)) | (simp; done) | (simp; omega)))⟩
end Go.Proofs.YtbeaheicjopooaaGreatDoor
