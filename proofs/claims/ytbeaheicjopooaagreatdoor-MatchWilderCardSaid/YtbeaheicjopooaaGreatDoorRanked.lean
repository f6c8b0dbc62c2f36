/- What the reader of an address makes of what stands behind a ranked scheme, for texts of at most a million bytes. -/
import Derived.Test.YtbeaheicjopooaaGreatDoorProg
import Derived.Test.YtbeaheicjopooaaGreatDoorPrint
import Derived.Deep.RegionWith
namespace Go.Proofs.YtbeaheicjopooaaGreatDoor
open Go.RowKit Go.Sort
attribute [local go_sem] get_mk mk_append mk_extract0 mk_extract_end mk_extract_cons empty_mk cell_grow frozen_grow size_grow

/-- All blocks but b are as they were. -/
def Keep (b : Nat) (w w' : World) : Prop :=
  w'.os = w.os ∧ w'.tape = w.tape ∧ w'.output = w.output ∧ w.heap.size ≤ w'.heap.size ∧ ∀ k, k < w.heap.size → k ≠ b → w'.heap[k]? = w.heap[k]?
theorem Keep.refl (b : Nat) (w : World) : Keep b w w := ⟨rfl, rfl, rfl, Nat.le_refl _, fun _ _ _ => rfl⟩
theorem Keep.reach {b : Nat} {w w1 w2 : World} (h : Keep b w w1) (k : Reach w1 w2) : Keep b w w2 :=
  ⟨(Below.os k).trans h.1, (Below.tape k).trans h.2.1, (Below.output k).trans h.2.2.1, Nat.le_trans h.2.2.2.1 (Below.size k), fun i hi hb => (Below.block k i (Nat.lt_of_lt_of_le hi h.2.2.2.1)).trans (h.2.2.2.2 i hi hb)⟩
theorem Keep.setCell {b : Nat} {w w1 : World} (h : Keep b w w1) (p : Addr) (hp : p.block = b ∨ w.heap.size ≤ p.block) (v : Value) : Keep b w (w1.setCell p v) :=
  ⟨h.1, h.2.1, h.2.2.1, by rw [World.size_setCell]; exact h.2.2.2.1, fun i hi hb => (Below.heap_setCell w1 p v i (by omega)).trans (h.2.2.2.2 i hi hb)⟩
theorem Keep.toReach {b : Nat} {w0 w w' : World} (h : Keep b w w') (hr : Reach w0 w) (hb : w0.heap.size ≤ b) : Reach w0 w' :=
  ⟨h.1.trans (Below.os hr), h.2.1.trans (Below.tape hr), h.2.2.1.trans (Below.output hr), Nat.le_trans (Below.size hr) h.2.2.2.1, fun i hi => (h.2.2.2.2 i (Nat.lt_of_lt_of_le hi (Below.size hr)) (by omega)).trans (Below.block hr i hi)⟩
/-- The reader's cells. -/
def Cells (w : World) (b : Nat) (rest : List UInt8) (u : URL) : Prop :=
  (w.cell? ⟨b, 0, none⟩ = some (.string ⟨rest.toArray⟩) ∧ w.cell? ⟨b, 1, none⟩ = some (.bool u.opq) ∧ w.cell? ⟨b, 2, none⟩ = some (.string ⟨u.sch.toArray⟩) ∧ w.cell? ⟨b, 3, none⟩ = some (.string ⟨u.host.toArray⟩) ∧
    w.cell? ⟨b, 4, none⟩ = some (.int .i64 u.port) ∧ w.cell? ⟨b, 5, none⟩ = some (.string ⟨u.path.toArray⟩) ∧ w.cell? ⟨b, 6, none⟩ = some (.string ⟨u.query.toArray⟩)) ∧ (∀ o, w.frozen? ⟨b, o, none⟩ = false) ∧ b < w.heap.size

theorem Cells.reach {w w' : World} {b : Nat} {r : List UInt8} {u : URL} (h : Cells w b r u) (hr : Reach w w') : Cells w' b r u := by
  obtain ⟨⟨c0, c1, c2, c3, c4, c5, c6⟩, hf, hb⟩ := h
  obtain ⟨g1, g2, g3⟩ := Reach.facts hr
  exact ⟨⟨(g1 _ _ hb).trans c0, (g1 _ _ hb).trans c1, (g1 _ _ hb).trans c2, (g1 _ _ hb).trans c3, (g1 _ _ hb).trans c4, (g1 _ _ hb).trans c5, (g1 _ _ hb).trans c6⟩, fun o => (g2 _ _ hb).trans (hf o), g3 _ hb⟩
theorem Cells.alloc {w : World} {b : Nat} {r : List UInt8} {u : URL} (h : Cells w b r u) (o : Obj) : Cells (w.alloc o) b r u := h.reach (Reach.alloc (Reach.refl w) o)
theorem Cells.grow {w : World} {b : Nat} {r : List UInt8} {u : URL} (h : Cells w b r u) (d : Nat) (os : Array Obj) : Cells (Sort.grow (redrawn w d) os) b r u := h.reach (Reach.grow (Reach.refl w) d os)
theorem Cells.other {w : World} {b : Nat} {r : List UInt8} {u : URL} (h : Cells w b r u) (p : Addr) (hp : p.block ≠ b) (v : Value) : Cells (w.setCell p v) b r u := by
  obtain ⟨⟨c0, c1, c2, c3, c4, c5, c6⟩, hf, hb⟩ := h
  have g : ∀ o, (w.setCell p v).cell? ⟨b, o, none⟩ = w.cell? ⟨b, o, none⟩ := fun o => World.cell?_setCell_other _ _ _ _ (by intro e; rw [e] at hp; exact hp rfl)
  exact ⟨⟨(g _).trans c0, (g _).trans c1, (g _).trans c2, (g _).trans c3, (g _).trans c4, (g _).trans c5, (g _).trans c6⟩, fun o => by rw [World.frozen?_setCell]; exact hf o, by rw [World.size_setCell]; exact hb⟩
theorem Cells.set0 {w : World} {b : Nat} {r : List UInt8} {u : URL} (h : Cells w b r u) (r' : List UInt8) : Cells (w.setCell ⟨b, 0, none⟩ (.string ⟨r'.toArray⟩)) b r' u := by
  obtain ⟨⟨c0, c1, c2, c3, c4, c5, c6⟩, hf, hb⟩ := h
  exact ⟨⟨World.cell?_setCell_same _ _ _ c0, (World.cell?_setCell_other _ _ _ _ (by simp)).trans c1, (World.cell?_setCell_other _ _ _ _ (by simp)).trans c2, (World.cell?_setCell_other _ _ _ _ (by simp)).trans c3, (World.cell?_setCell_other _ _ _ _ (by simp)).trans c4, (World.cell?_setCell_other _ _ _ _ (by simp)).trans c5, (World.cell?_setCell_other _ _ _ _ (by simp)).trans c6⟩, fun o => by rw [World.frozen?_setCell]; exact hf o, by rw [World.size_setCell]; exact hb⟩
theorem Cells.set1 {w : World} {b : Nat} {r : List UInt8} {u : URL} (h : Cells w b r u) (x : Bool) : Cells (w.setCell ⟨b, 1, none⟩ (.bool x)) b r { u with opq := x } := by
  obtain ⟨⟨c0, c1, c2, c3, c4, c5, c6⟩, hf, hb⟩ := h
  exact ⟨⟨(World.cell?_setCell_other _ _ _ _ (by simp)).trans c0, World.cell?_setCell_same _ _ _ c1, (World.cell?_setCell_other _ _ _ _ (by simp)).trans c2, (World.cell?_setCell_other _ _ _ _ (by simp)).trans c3, (World.cell?_setCell_other _ _ _ _ (by simp)).trans c4, (World.cell?_setCell_other _ _ _ _ (by simp)).trans c5, (World.cell?_setCell_other _ _ _ _ (by simp)).trans c6⟩, fun o => by rw [World.frozen?_setCell]; exact hf o, by rw [World.size_setCell]; exact hb⟩
theorem Cells.set2 {w : World} {b : Nat} {r : List UInt8} {u : URL} (h : Cells w b r u) (x : List UInt8) : Cells (w.setCell ⟨b, 2, none⟩ (.string ⟨x.toArray⟩)) b r { u with sch := x } := by
  obtain ⟨⟨c0, c1, c2, c3, c4, c5, c6⟩, hf, hb⟩ := h
  exact ⟨⟨(World.cell?_setCell_other _ _ _ _ (by simp)).trans c0, (World.cell?_setCell_other _ _ _ _ (by simp)).trans c1, World.cell?_setCell_same _ _ _ c2, (World.cell?_setCell_other _ _ _ _ (by simp)).trans c3, (World.cell?_setCell_other _ _ _ _ (by simp)).trans c4, (World.cell?_setCell_other _ _ _ _ (by simp)).trans c5, (World.cell?_setCell_other _ _ _ _ (by simp)).trans c6⟩, fun o => by rw [World.frozen?_setCell]; exact hf o, by rw [World.size_setCell]; exact hb⟩
theorem Cells.set3 {w : World} {b : Nat} {r : List UInt8} {u : URL} (h : Cells w b r u) (x : List UInt8) : Cells (w.setCell ⟨b, 3, none⟩ (.string ⟨x.toArray⟩)) b r { u with host := x } := by
  obtain ⟨⟨c0, c1, c2, c3, c4, c5, c6⟩, hf, hb⟩ := h
  exact ⟨⟨(World.cell?_setCell_other _ _ _ _ (by simp)).trans c0, (World.cell?_setCell_other _ _ _ _ (by simp)).trans c1, (World.cell?_setCell_other _ _ _ _ (by simp)).trans c2, World.cell?_setCell_same _ _ _ c3, (World.cell?_setCell_other _ _ _ _ (by simp)).trans c4, (World.cell?_setCell_other _ _ _ _ (by simp)).trans c5, (World.cell?_setCell_other _ _ _ _ (by simp)).trans c6⟩, fun o => by rw [World.frozen?_setCell]; exact hf o, by rw [World.size_setCell]; exact hb⟩
theorem Cells.set4 {w : World} {b : Nat} {r : List UInt8} {u : URL} (h : Cells w b r u) (x : Int) : Cells (w.setCell ⟨b, 4, none⟩ (.int .i64 x)) b r { u with port := x } := by
  obtain ⟨⟨c0, c1, c2, c3, c4, c5, c6⟩, hf, hb⟩ := h
  exact ⟨⟨(World.cell?_setCell_other _ _ _ _ (by simp)).trans c0, (World.cell?_setCell_other _ _ _ _ (by simp)).trans c1, (World.cell?_setCell_other _ _ _ _ (by simp)).trans c2, (World.cell?_setCell_other _ _ _ _ (by simp)).trans c3, World.cell?_setCell_same _ _ _ c4, (World.cell?_setCell_other _ _ _ _ (by simp)).trans c5, (World.cell?_setCell_other _ _ _ _ (by simp)).trans c6⟩, fun o => by rw [World.frozen?_setCell]; exact hf o, by rw [World.size_setCell]; exact hb⟩
theorem Cells.set5 {w : World} {b : Nat} {r : List UInt8} {u : URL} (h : Cells w b r u) (x : List UInt8) : Cells (w.setCell ⟨b, 5, none⟩ (.string ⟨x.toArray⟩)) b r { u with path := x } := by
  obtain ⟨⟨c0, c1, c2, c3, c4, c5, c6⟩, hf, hb⟩ := h
  exact ⟨⟨(World.cell?_setCell_other _ _ _ _ (by simp)).trans c0, (World.cell?_setCell_other _ _ _ _ (by simp)).trans c1, (World.cell?_setCell_other _ _ _ _ (by simp)).trans c2, (World.cell?_setCell_other _ _ _ _ (by simp)).trans c3, (World.cell?_setCell_other _ _ _ _ (by simp)).trans c4, World.cell?_setCell_same _ _ _ c5, (World.cell?_setCell_other _ _ _ _ (by simp)).trans c6⟩, fun o => by rw [World.frozen?_setCell]; exact hf o, by rw [World.size_setCell]; exact hb⟩
theorem Cells.set6 {w : World} {b : Nat} {r : List UInt8} {u : URL} (h : Cells w b r u) (x : List UInt8) : Cells (w.setCell ⟨b, 6, none⟩ (.string ⟨x.toArray⟩)) b r { u with query := x } := by
  obtain ⟨⟨c0, c1, c2, c3, c4, c5, c6⟩, hf, hb⟩ := h
  exact ⟨⟨(World.cell?_setCell_other _ _ _ _ (by simp)).trans c0, (World.cell?_setCell_other _ _ _ _ (by simp)).trans c1, (World.cell?_setCell_other _ _ _ _ (by simp)).trans c2, (World.cell?_setCell_other _ _ _ _ (by simp)).trans c3, (World.cell?_setCell_other _ _ _ _ (by simp)).trans c4, (World.cell?_setCell_other _ _ _ _ (by simp)).trans c5, World.cell?_setCell_same _ _ _ c6⟩, fun o => by rw [World.frozen?_setCell]; exact hf o, by rw [World.size_setCell]; exact hb⟩

set_option maxRecDepth 100000 in
set_option maxHeartbeats 400000 in
theorem ranked_no (sch rest : List UInt8) (b : Nat) (w : World) (hc : Cells w b rest ⟨false, sch, [], 0, [], []⟩) (hp : Lib.hasPrefix rest [47, 47] = false) :
    Calls Tryz.prog 80 #[.pointer (some ⟨b, 0, none⟩)] w fun e w' => e = .returned (.tuple #[]) ∧ Keep b w w' ∧ ∃ r, Cells w' b r (rankedL sch rest) := by
  obtain ⟨⟨c0, c1, c2, c3, c4, c5, c6⟩, hfr, hb⟩ := hc
  have HC : Cells w b rest ⟨false, sch, [], 0, [], []⟩ := ⟨⟨c0, c1, c2, c3, c4, c5, c6⟩, hfr, hb⟩
  go_enter Tryz.func80, Tryz.ntmps80
  go_wp2_with (first | (go_at_call 47; (with_reducible refine Calls.mono (hasPre_calls _ _ _) ?_); rintro e w' ⟨rfl, rfl⟩) | ((with_reducible refine wp_region_quiet_below (by kernel_rfl) (by kernel_rfl) ?_); (repeat (any_goals (first | (go_big_quiet_step ((first | (go_at_call 47; with_reducible exact reg_pure (hasPre_calls _ _ _))))) | (quiet_step ((first | (go_at_call 47; with_reducible exact reg_pure (hasPre_calls _ _ _))))) | (refine wpQuiet_step (fun K hK => ?_); go_simp; split <;> (refine hK _ ?_; clear hK K))))); all_goals (refine wpQuiet_nil ?_; intro _ hw'; obtain ⟨⟨dq, osq⟩, hw''⟩ := hw'; subst hw'')))
  refine bodyPost_ret (results_none rfl _ _ _) rfl ?_
  exact ⟨rfl, Keep.refl _ _, rest, by rw [rankedL, hp]; exact HC⟩

set_option maxRecDepth 100000 in
set_option maxHeartbeats 4000000 in
theorem ranked_yes (sch rest : List UInt8) (b : Nat) (w : World) (hc : Cells w b rest ⟨false, sch, [], 0, [], []⟩) (hp : Lib.hasPrefix rest [47, 47] = true) (hlen : rest.length ≤ 900000) (_hs : sch.length ≤ 900000) (hE : Env w) (hbg : NG ≤ b) :
    Calls Tryz.prog 80 #[.pointer (some ⟨b, 0, none⟩)] w fun e w' => e = .returned (.tuple #[]) ∧ Keep b w w' ∧ ∃ r, Cells w' b r (rankedL sch rest) := by
  have HC0 := hc
  obtain ⟨⟨c0, c1, c2, c3, c4, c5, c6⟩, hfr, hb⟩ := hc
  have hl2 : 2 ≤ rest.length := by
    match rest, hp with
    | _ :: _ :: _, _ => simp
    | [_], hp => simp [Lib.hasPrefix] at hp
    | [], hp => simp [Lib.hasPrefix] at hp
  have hn1 := frontL_length (rest.drop 2) [47, 63]
  have hn2 := restL_length (rest.drop 2) [47, 63]
  have hld : (rest.drop 2).length ≤ 900000 := by rw [List.length_drop]; omega
  have hrk : rankedL sch rest = ⟨false, sch, lowerL (frontL (frontL (rest.drop 2) [47, 63]) [58]),
      if portL (restL (frontL (rest.drop 2) [47, 63]) [58]) = defPort sch then 0 else portL (restL (frontL (rest.drop 2) [47, 63]) [58]),
      cleanL (if frontL (restL (rest.drop 2) [47, 63]) [63] = [] then [47] else frontL (restL (rest.drop 2) [47, 63]) [63]),
      restL (restL (rest.drop 2) [47, 63]) [63]⟩ := by rw [rankedL, if_pos hp]
  rw [hrk]
  clear hrk
  have C1 := fun bb o W h1 h2 h3 => cut_calls (rest.drop 2) [47, 63] bb o W (by omega) (by decide) h1 h2 h3
  generalize frontL (rest.drop 2) [47, 63] = name at hn1 C1 ⊢
  generalize restL (rest.drop 2) [47, 63] = r3 at hn2 C1 ⊢
  have hn3 := frontL_length name [58]
  have hn4 := restL_length name [58]
  have hn5 := frontL_length r3 [63]
  have hn6 := restL_length r3 [63]
  have C2 := fun bb o W h1 h2 h3 => cut_calls name [58] bb o W (by omega) (by decide) h1 h2 h3
  generalize frontL name [58] = hst at hn3 C2 ⊢
  generalize restL name [58] = num at hn4 C2 ⊢
  have C3 := fun bb o W h1 h2 h3 => cut_calls r3 [63] bb o W (by omega) (by decide) h1 h2 h3
  generalize frontL r3 [63] = pth at hn5 C3 ⊢
  generalize restL r3 [63] = qry at hn6 C3 ⊢
  have n1 : hst.length ≤ 900000 := by omega
  have n2 : num.length ≤ 900000 := by omega
  have n3 : pth.length ≤ 900000 := by omega
  have n4 : qry.length ≤ 900000 := by omega
  have H1 := Lib.hid C1
  have H2 := Lib.hid C2
  have H3 := Lib.hid C3
  clear hn1 hn2 hn3 hn4 hn5 hn6 C1 C2 C3
  go_enter Tryz.func80, Tryz.ntmps80
  go_wp2_with (first | (go_at_call 47; (with_reducible refine Calls.mono (hasPre_calls _ _ _) ?_); rintro e w' ⟨rfl, rfl⟩) | ((with_reducible refine wp_region_quiet_below (by kernel_rfl) (by kernel_rfl) ?_); (repeat (any_goals (first | (go_big_quiet_step ((first | (go_at_call 47; with_reducible exact reg_pure (hasPre_calls _ _ _))))) | (quiet_step ((first | (go_at_call 47; with_reducible exact reg_pure (hasPre_calls _ _ _))))) | (refine wpQuiet_step (fun K hK => ?_); go_simp; split <;> (refine hK _ ?_; clear hK K))))); all_goals (refine wpQuiet_nil ?_; intro _ hw'; obtain ⟨⟨dq, osq⟩, hw''⟩ := hw'; subst hw'')))
  refine Calls.mono (H1.out _ _ _ (by first | (with_reducible assumption) | (go_simp; done) | (simp [*]; done)) (by first | (with_reducible assumption) | (go_simp; done) | (simp [*]; done)) (by first | (with_reducible assumption) | (go_simp; done) | (simp [*]; done))) ?_
  rintro e w' ⟨rfl, W1, hr1, rfl⟩
  have E1 := (Env.reach (hE.set ⟨b, 0, none⟩ (.string ⟨(rest.drop 2).toArray⟩) hbg) hr1).set ⟨b, 0, none⟩ (.string ⟨r3.toArray⟩) hbg
  have K1 := Keep.reach ((Keep.refl b w).setCell ⟨b, 0, none⟩ (.inl rfl) (.string ⟨(rest.drop 2).toArray⟩)) hr1
  have HC1 := ((HC0.set0 (rest.drop 2)).reach hr1).set0 r3
  have e1 : b ≠ W1.heap.size := by have := ((HC0.set0 (rest.drop 2)).reach hr1).2.2; omega
  have e2 : W1.heap.size ≠ b := e1.symm
  clear c0 c1 c2 c3 c4 c5 c6 hfr hb
  go_wp2_with fail
  refine Calls.mono (H2.out _ _ _ (by first | (with_reducible assumption) | (go_simp; done) | (simp [*]; done)) (by first | (with_reducible assumption) | (go_simp; done) | (simp [*]; done)) (by first | (with_reducible assumption) | (go_simp; done) | (simp [*]; done))) ?_
  rintro e w' ⟨rfl, W2, hr2, rfl⟩
  have HC2 := ((HC1.alloc _).reach hr2).other ⟨W1.heap.size, 0, none⟩ e2 (.string ⟨num.toArray⟩)
  have K2 := Keep.reach (Keep.reach (K1.setCell ⟨b, 0, none⟩ (.inl rfl) (.string ⟨r3.toArray⟩)) (Reach.alloc (Reach.refl _) _)) hr2
  have g2 : W2.cell? ⟨W1.heap.size, 0, none⟩ = some (.string ⟨name.toArray⟩) := by
    rw [(Reach.facts hr2).1 _ _ (by rw [World.size_alloc, World.size_setCell]; omega)]
    go_simp
  have E2 := (Env.reach (Env.reach E1 (Reach.alloc (Reach.refl _) _)) hr2).set ⟨W1.heap.size, 0, none⟩ (.string ⟨num.toArray⟩) (by have := E1.size; rw [World.size_setCell] at this; exact this)
  have s2 : W1.heap.size < W2.heap.size := (Reach.facts hr2).2.2 _ (by rw [World.size_alloc, World.size_setCell]; omega)
  have g3 := World.cell?_setCell_same _ _ (.string ⟨num.toArray⟩) g2
  clear hr2
  go_wp2_with fail
  refine Calls.mono (lower_calls _ _ (by first | (with_reducible assumption) | omega | (simp; done) | (simp; omega))) ?_
  rintro e W3 ⟨rfl, hr3⟩
  have HC3 := HC2.reach hr3
  have E3 := Env.reach E2 hr3
  have g4 : W3.cell? ⟨W1.heap.size, 0, none⟩ = some (.string ⟨num.toArray⟩) := by
    rw [(Reach.facts hr3).1 _ _ (by rw [World.size_setCell]; exact s2)]; exact g3
  have K3 := Keep.reach (K2.setCell ⟨W1.heap.size, 0, none⟩ (.inr K1.2.2.2.1) (.string ⟨num.toArray⟩)) hr3
  clear hr3 g2 g3
  obtain ⟨⟨c0, c1, c2, c3, c4, c5, c6⟩, hfr, hb⟩ := id HC3
  go_wp2_with fail
  refine Calls.mono (port_calls _ _ (by first | (with_reducible assumption) | omega | (simp; done) | (simp; omega))) ?_
  rintro e W4 ⟨rfl, hr4⟩
  have E4 := Env.reach (E3.set ⟨b, 3, none⟩ (.string ⟨(lowerL hst).toArray⟩) hbg) hr4
  have HC4 := ((HC3.set3 (lowerL hst)).reach hr4)
  have K4 := Keep.reach (K3.setCell ⟨b, 3, none⟩ (.inl rfl) (.string ⟨(lowerL hst).toArray⟩)) hr4
  clear hr4 g4
  clear c0 c1 c2 c3 c4 c5 c6 hfr hb
  obtain ⟨⟨c0, c1, c2, c3, c4, c5, c6⟩, hfr, hb⟩ := id HC4
  go_wp2_with fail
  have HE5 := Lib.hid (E4.set ⟨b, 4, none⟩ (.int .i64 (portL num)) hbg)
  have HC5 := HC4.set4 (portL num)
  have K5 := K4.setCell ⟨b, 4, none⟩ (.inl rfl) (.int .i64 (portL num))
  clear c0 c1 c2 c3 c4 c5 c6 hfr hb
  generalize W4.setCell ⟨b, 4, none⟩ (.int .i64 (portL num)) = W5 at HC5 K5 HE5 ⊢
  obtain ⟨⟨c0, c1, c2, c3, c4, c5, c6⟩, hfr, hb⟩ := id HC5
  by_cases hpd : portL num = defPort sch
  · have hpb : (portL num == defPort sch) = true := by simp [hpd]
    have HPD := Lib.hid hpd
    clear hpd
    go_wp2_with (first | (go_at_call 56; (with_reducible refine Calls.mono (default_calls _ _) ?_); rintro e w' ⟨rfl, rfl⟩) | ((with_reducible refine wp_region_quiet_below (by kernel_rfl) (by kernel_rfl) ?_); (repeat (any_goals (first | (go_big_quiet_step ((first | (go_at_call 56; with_reducible exact reg_pure (default_calls _ _))))) | (quiet_step ((first | (go_at_call 56; with_reducible exact reg_pure (default_calls _ _))))) | (refine wpQuiet_step (fun K hK => ?_); go_simp; split <;> (refine hK _ ?_; clear hK K))))); all_goals (refine wpQuiet_nil ?_; intro _ hw'; obtain ⟨⟨dq, osq⟩, hw''⟩ := hw'; subst hw'')))
    have HC6 := (HC5.grow dq osq).set4 0
    have K6 := (Keep.reach K5 (Reach.grow (Reach.refl _) dq osq)).setCell ⟨b, 4, none⟩ (.inl rfl) (.int .i64 0)
    have HE6 := Lib.hid ((Env.reach HE5.out (Reach.grow (Reach.refl _) dq osq)).set ⟨b, 4, none⟩ (.int .i64 0) hbg)
    clear c0 c1 c2 c3 c4 c5 c6 hfr hb
    generalize (grow (redrawn W5 dq) osq).setCell ⟨b, 4, none⟩ (.int .i64 0) = W6 at HC6 K6 HE6 ⊢
    obtain ⟨⟨c0, c1, c2, c3, c4, c5, c6⟩, hfr, hb⟩ := id HC6
    refine Calls.mono (H3.out _ _ _ (by first | (with_reducible assumption) | (go_simp; done) | (simp [*]; done)) (by first | (with_reducible assumption) | (go_simp; done) | (simp [*]; done)) (by first | (with_reducible assumption) | (go_simp; done) | (simp [*]; done))) ?_
    rintro e w' ⟨rfl, W7, hr7, rfl⟩
    have HC8 := (HC6.reach hr7).set0 qry
    have K8 := (Keep.reach K6 hr7).setCell ⟨b, 0, none⟩ (.inl rfl) (.string ⟨qry.toArray⟩)
    have E8 := (Env.reach HE6.out hr7).set ⟨b, 0, none⟩ (.string ⟨qry.toArray⟩) hbg
    clear c0 c1 c2 c3 c4 c5 c6 hfr hb
    generalize W7.setCell ⟨b, 0, none⟩ (.string ⟨qry.toArray⟩) = W8 at HC8 K8 E8 ⊢
    have HE8 := Lib.hid (Env.reach E8 (Reach.drew (Reach.refl W8)))
    clear E8
    obtain ⟨⟨c0, c1, c2, c3, c4, c5, c6⟩, hfr, hb⟩ := id HC8
    by_cases hpe : pth = []
    · have HPE := Lib.hid hpe
      have hpeb : pth = [] := hpe
      have hfin : (⟨false, sch, lowerL hst, if portL num = defPort sch then 0 else portL num, cleanL (if pth = [] then [47] else pth), qry⟩ : URL) = ⟨false, sch, lowerL hst, 0, cleanL [47], qry⟩ := by simp [HPD.out, HPE.out]
      have HF := Lib.hid hfin
      clear hfin
      go_wp2_with fail
      go_region_with (go_at_call 75; (with_reducible refine Calls.mono (clean_calls _ _ (by first | (with_reducible assumption) | omega | (simp; done) | (simp; omega)) HE8.out) ?_); rintro e W9 ⟨rfl, hr9⟩; have HC9 := Cells.reach HC8 (Reach.trans (Reach.drew (Reach.refl W8)) hr9); have K9 := Keep.reach K8 (Reach.trans (Reach.drew (Reach.refl W8)) hr9); obtain ⟨⟨d0, d1, d2, d3, d4, d5, d6⟩, dfr, db⟩ := id HC9)
      all_goals (go_end0; exact ⟨rfl, (K9.setCell ⟨b, 5, none⟩ (.inl rfl) _).setCell ⟨b, 6, none⟩ (.inl rfl) _, qry, by rw [HF.out]; exact (HC9.set5 _).set6 _⟩)
    · have HPE := Lib.hid hpe
      have hpeb : (pth == []) = false := by simp [hpe]
      clear hpe
      have hfin : (⟨false, sch, lowerL hst, if portL num = defPort sch then 0 else portL num, cleanL (if pth = [] then [47] else pth), qry⟩ : URL) = ⟨false, sch, lowerL hst, 0, cleanL pth, qry⟩ := by simp [HPD.out, HPE.out]
      have HF := Lib.hid hfin
      clear hfin
      go_wp2_with fail
      go_region_with (go_at_call 75; (with_reducible refine Calls.mono (clean_calls _ _ (by first | (with_reducible assumption) | omega | (simp; done) | (simp; omega)) HE8.out) ?_); rintro e W9 ⟨rfl, hr9⟩; have HC9 := Cells.reach HC8 (Reach.trans (Reach.drew (Reach.refl W8)) hr9); have K9 := Keep.reach K8 (Reach.trans (Reach.drew (Reach.refl W8)) hr9); obtain ⟨⟨d0, d1, d2, d3, d4, d5, d6⟩, dfr, db⟩ := id HC9)
      all_goals (go_end0; exact ⟨rfl, (K9.setCell ⟨b, 5, none⟩ (.inl rfl) _).setCell ⟨b, 6, none⟩ (.inl rfl) _, qry, by rw [HF.out]; exact (HC9.set5 _).set6 _⟩)
  · have hpb : (portL num == defPort sch) = false := by simp [hpd]
    have HPD := Lib.hid hpd
    clear hpd
    go_wp2_with (first | (go_at_call 56; (with_reducible refine Calls.mono (default_calls _ _) ?_); rintro e w' ⟨rfl, rfl⟩) | ((with_reducible refine wp_region_quiet_below (by kernel_rfl) (by kernel_rfl) ?_); (repeat (any_goals (first | (go_big_quiet_step ((first | (go_at_call 56; with_reducible exact reg_pure (default_calls _ _))))) | (quiet_step ((first | (go_at_call 56; with_reducible exact reg_pure (default_calls _ _))))) | (refine wpQuiet_step (fun K hK => ?_); go_simp; split <;> (refine hK _ ?_; clear hK K))))); all_goals (refine wpQuiet_nil ?_; intro _ hw'; obtain ⟨⟨dq, osq⟩, hw''⟩ := hw'; subst hw'')))
    have HC6 := HC5.grow dq osq
    have K6 := Keep.reach K5 (Reach.grow (Reach.refl _) dq osq)
    have HE6 := Lib.hid (Env.reach HE5.out (Reach.grow (Reach.refl _) dq osq))
    clear c0 c1 c2 c3 c4 c5 c6 hfr hb
    generalize grow (redrawn W5 dq) osq = W6 at HC6 K6 HE6 ⊢
    obtain ⟨⟨c0, c1, c2, c3, c4, c5, c6⟩, hfr, hb⟩ := id HC6
    refine Calls.mono (H3.out _ _ _ (by first | (with_reducible assumption) | (go_simp; done) | (simp [*]; done)) (by first | (with_reducible assumption) | (go_simp; done) | (simp [*]; done)) (by first | (with_reducible assumption) | (go_simp; done) | (simp [*]; done))) ?_
    rintro e w' ⟨rfl, W7, hr7, rfl⟩
    have HC8 := (HC6.reach hr7).set0 qry
    have K8 := (Keep.reach K6 hr7).setCell ⟨b, 0, none⟩ (.inl rfl) (.string ⟨qry.toArray⟩)
    have E8 := (Env.reach HE6.out hr7).set ⟨b, 0, none⟩ (.string ⟨qry.toArray⟩) hbg
    clear c0 c1 c2 c3 c4 c5 c6 hfr hb
    generalize W7.setCell ⟨b, 0, none⟩ (.string ⟨qry.toArray⟩) = W8 at HC8 K8 E8 ⊢
    have HE8 := Lib.hid (Env.reach E8 (Reach.drew (Reach.refl W8)))
    clear E8
    obtain ⟨⟨c0, c1, c2, c3, c4, c5, c6⟩, hfr, hb⟩ := id HC8
    by_cases hpe : pth = []
    · have HPE := Lib.hid hpe
      have hpeb : pth = [] := hpe
      have hfin : (⟨false, sch, lowerL hst, if portL num = defPort sch then 0 else portL num, cleanL (if pth = [] then [47] else pth), qry⟩ : URL) = ⟨false, sch, lowerL hst, portL num, cleanL [47], qry⟩ := by simp [HPD.out, HPE.out]
      have HF := Lib.hid hfin
      clear hfin
      go_wp2_with fail
      go_region_with (go_at_call 75; (with_reducible refine Calls.mono (clean_calls _ _ (by first | (with_reducible assumption) | omega | (simp; done) | (simp; omega)) HE8.out) ?_); rintro e W9 ⟨rfl, hr9⟩; have HC9 := Cells.reach HC8 (Reach.trans (Reach.drew (Reach.refl W8)) hr9); have K9 := Keep.reach K8 (Reach.trans (Reach.drew (Reach.refl W8)) hr9); obtain ⟨⟨d0, d1, d2, d3, d4, d5, d6⟩, dfr, db⟩ := id HC9)
      all_goals (go_end0; exact ⟨rfl, (K9.setCell ⟨b, 5, none⟩ (.inl rfl) _).setCell ⟨b, 6, none⟩ (.inl rfl) _, qry, by rw [HF.out]; exact (HC9.set5 _).set6 _⟩)
    · have HPE := Lib.hid hpe
      have hpeb : (pth == []) = false := by simp [hpe]
      clear hpe
      have hfin : (⟨false, sch, lowerL hst, if portL num = defPort sch then 0 else portL num, cleanL (if pth = [] then [47] else pth), qry⟩ : URL) = ⟨false, sch, lowerL hst, portL num, cleanL pth, qry⟩ := by simp [HPD.out, HPE.out]
      have HF := Lib.hid hfin
      clear hfin
      go_wp2_with fail
      go_region_with (go_at_call 75; (with_reducible refine Calls.mono (clean_calls _ _ (by first | (with_reducible assumption) | omega | (simp; done) | (simp; omega)) HE8.out) ?_); rintro e W9 ⟨rfl, hr9⟩; have HC9 := Cells.reach HC8 (Reach.trans (Reach.drew (Reach.refl W8)) hr9); have K9 := Keep.reach K8 (Reach.trans (Reach.drew (Reach.refl W8)) hr9); obtain ⟨⟨d0, d1, d2, d3, d4, d5, d6⟩, dfr, db⟩ := id HC9)
      all_goals (go_end0; exact ⟨rfl, (K9.setCell ⟨b, 5, none⟩ (.inl rfl) _).setCell ⟨b, 6, none⟩ (.inl rfl) _, qry, by rw [HF.out]; exact (HC9.set5 _).set6 _⟩)
end Go.Proofs.YtbeaheicjopooaaGreatDoor
