/- What package source's small functions answer: schemes, hosts, paths; and the kept words as they lie; texts of at most a million bytes. -/
import Derived.Test.YtbeaheicjopooaaGreatDoorProg
import Derived.Test.YtbeaheicjopooaaGreatDoorKind
import Derived.Test.YtbeaheicjopooaaGreatDoorRanked
import Derived.Test.YtbeaheicjopooaaGreatDoorEqU
import Derived.Lib.LaidTab
namespace Go.Proofs.YtbeaheicjopooaaGreatDoor
open Go.RowKit Go.Sort
attribute [local go_sem] get_mk mk_append mk_extract0 mk_extract_end mk_extract_cons empty_mk cell_grow frozen_grow size_grow
theorem Blk.keep {w w' : World} {B b : Nat} {cs : Array Value} {t : TypeId} (h : Blk w B cs t) (k : Keep b w w') (hb : B ≠ b) : Blk w' B cs t :=
  (k.2.2.2.2 B h.lt hb).trans h
theorem Blk.eight {w : World} {B : Nat} {a b c d e f g i : Value} {t : TypeId} (h : Blk w B #[a, b, c, d, e, f, g, i] t) :
    w.cell? ⟨B, 0, none⟩ = some a ∧ w.cell? ⟨B, 1, none⟩ = some b ∧ w.cell? ⟨B, 2, none⟩ = some c ∧ w.cell? ⟨B, 3, none⟩ = some d ∧ w.cell? ⟨B, 4, none⟩ = some e ∧ w.cell? ⟨B, 5, none⟩ = some f ∧ w.cell? ⟨B, 6, none⟩ = some g ∧ w.cell? ⟨B, 7, none⟩ = some i :=
  ⟨h.cell 0, h.cell 1, h.cell 2, h.cell 3, h.cell 4, h.cell 5, h.cell 6, h.cell 7⟩
theorem Blk.eightf {w : World} {B : Nat} {a b c d e f g i : Value} {t : TypeId} (h : Blk w B #[a, b, c, d, e, f, g, i] t) :
    (w.cell? ⟨B, 0, none⟩ = some a ∧ w.cell? ⟨B, 1, none⟩ = some b ∧ w.cell? ⟨B, 2, none⟩ = some c ∧ w.cell? ⟨B, 3, none⟩ = some d ∧ w.cell? ⟨B, 4, none⟩ = some e ∧ w.cell? ⟨B, 5, none⟩ = some f ∧ w.cell? ⟨B, 6, none⟩ = some g ∧ w.cell? ⟨B, 7, none⟩ = some i) ∧
    w.frozen? ⟨B, 0, none⟩ = false ∧ w.frozen? ⟨B, 1, none⟩ = false ∧ w.frozen? ⟨B, 2, none⟩ = false ∧ w.frozen? ⟨B, 3, none⟩ = false ∧ w.frozen? ⟨B, 4, none⟩ = false ∧ w.frozen? ⟨B, 5, none⟩ = false ∧ w.frozen? ⟨B, 6, none⟩ = false ∧ w.frozen? ⟨B, 7, none⟩ = false :=
  ⟨h.eight, h.frozen 0, h.frozen 1, h.frozen 2, h.frozen 3, h.frozen 4, h.frozen 5, h.frozen 6, h.frozen 7⟩
/-- The kept words, by their kinds. -/
def keptL : List (List UInt8) := [[], [39, 110, 111, 110, 101, 39], [39, 115, 101, 108, 102, 39], [39, 117, 110, 115, 97, 102, 101, 45, 105, 110, 108, 105, 110, 101, 39], [39, 117, 110, 115, 97, 102, 101, 45, 101, 118, 97, 108, 39], [39, 119, 97, 115, 109, 45, 117, 110, 115, 97, 102, 101, 45, 101, 118, 97, 108, 39],
  [39, 115, 116, 114, 105, 99, 116, 45, 100, 121, 110, 97, 109, 105, 99, 39], [39, 117, 110, 115, 97, 102, 101, 45, 104, 97, 115, 104, 101, 115, 39], [39, 114, 101, 112, 111, 114, 116, 45, 115, 97, 109, 112, 108, 101, 39]]
/-- A table of texts as a row lists it. -/
def strTab {H : Type} (l : List (List UInt8)) : DataW H := .agg (l.map fun s => .lit (.string s))
theorem cells_of_strTab {H : Type} {enc : TypeId × Value → H} {P : Program} {w : World} {base : Nat} {sp : Nat → Bool} {held : Bool} {fuel : Nat} {t e : TypeId} {n : Nat} {cs : List Value} {l : List (List UInt8)} {p : List MemPlace}
    (ht : P.underlying t = some (.array n e)) (he : P.underlying e = some .string) (hce : P.cellsOf e = 1) (hct : P.cellsOf t = n)
    (h : DataW.trod enc P w base sp held fuel t cs = some (strTab l, p)) : cs = l.map fun s => Value.string ⟨s.toArray⟩ := by
  cases fuel with
  | zero => simp [DataW.trod] at h
  | succ fuel =>
    simp only [DataW.trod, ht, hce, hct, Nat.mul_one] at h
    split at h
    · rename_i hl
      obtain ⟨xs, hm, hx⟩ := Option.map_eq_some_iff.1 h
      have hxs : xs.map (·.1) = l.map fun s => (DataW.lit (.string s) : DataW H) := by
        have := congrArg Prod.fst hx
        simpa [strTab] using this
      have hxl : xs.length = n := by simpa using Lib.mapM_length hm
      have hzl : l.length = n := by
        have := congrArg List.length hxs
        simp at this
        omega
      apply List.ext_getElem?
      intro i
      by_cases hi : i < n
      · obtain ⟨b, hb, hf⟩ := Lib.mapM_at hm i i (by simp [hi])
        obtain ⟨⟨⟨z⟩⟩, hc, rfl, _⟩ := DataW.trod_string he hf
        have h1 : cs[i]? = some (.string ⟨z.toArray⟩) := by
          have := congrArg (·[0]?) hc
          simpa [List.getElem?_take, List.getElem?_drop] using this
        have h2 : (xs.map (·.1))[i]? = some (DataW.lit (.string z) : DataW H) := by simp [hb]
        rw [hxs] at h2
        simp only [List.getElem?_map, Option.map_eq_some_iff, DataW.lit.injEq, Lit.string.injEq] at h2
        obtain ⟨z', hz', rfl⟩ := h2
        simp [h1, hz']
      · rw [List.getElem?_eq_none (by omega), List.getElem?_eq_none (by simp; omega)]
    · cases h
/-- The kept words lie where the program's start laid them. -/
def KeptIs (W : World) : Prop := W.var? Tryz.prog "pounce/source.kept" = some (keptL.map fun s => Value.string ⟨s.toArray⟩).toArray ∧ 1 < W.heap.size
theorem keptIs_of_head {W : World} {rest : List (String × DataW Unit)} (hs : NG ≤ W.heap.size) (h : laidMet Tryz.prog (("pounce/source.kept", strTab keptL) :: rest) W) : KeptIs W := by
  obtain ⟨ps, ⟨g', t', cs, fuel, p, q, hg', ht', hvar, hd, _, _⟩, _⟩ := h
  obtain rfl := Option.some.inj ((show Tryz.prog.globalNamed "pounce/source.kept" = some 1 by kernel_rfl).symm.trans hg')
  obtain rfl := Option.some.inj ((show (Tryz.prog.globals[1]?).map (·.type) = some 117 by kernel_rfl).symm.trans ht')
  refine ⟨?_, Nat.lt_of_lt_of_le (by decide) hs⟩
  rw [hvar, ← cells_of_strTab (by kernel_rfl : Tryz.prog.underlying 117 = some (.array 9 9)) (by kernel_rfl) (by kernel_rfl) (by kernel_rfl) hd]
theorem KeptIs.reach {w w' : World} (h : KeptIs w) (hr : Reach w w') : KeptIs w' :=
  ⟨var?_below hr (by kernel_rfl) h.2 h.1, Nat.lt_of_lt_of_le h.2 hr.size⟩
theorem KeptIs.row {w : World} (h : KeptIs w) : ∃ t fr, w.heap[1]? = some (.cells (keptL.map fun s => Value.string ⟨s.toArray⟩).toArray t fr) := by
  have hg : Tryz.prog.globalNamed "pounce/source.kept" = some 1 := by kernel_rfl
  have h1 := h.1
  unfold World.var? at h1
  simp only [hg, Option.bind_some] at h1
  cases hc : w.heap[1]? with
  | none => simp [hc] at h1
  | some o =>
    rw [hc] at h1
    cases o with
    | cells cs t fr => simp at h1; exact ⟨t, fr, by rw [h1]⟩
    | _ => simp at h1
theorem KeptIs.keep {w w' : World} {b : Nat} (h : KeptIs w) (k : Keep b w w') (hb : NG ≤ b) : KeptIs w' := by
  refine ⟨?_, Nat.lt_of_lt_of_le h.2 k.2.2.2.1⟩
  have hg : Tryz.prog.globalNamed "pounce/source.kept" = some 1 := by kernel_rfl
  have := h.1
  unfold World.var? at this ⊢
  simp only [hg, Option.bind_some] at this ⊢
  rw [k.2.2.2.2 1 h.2 (Nat.ne_of_lt (Nat.lt_of_lt_of_le (by decide) hb))]
  exact this
set_option maxRecDepth 100000 in
set_option maxHeartbeats 1000000 in
theorem sscheme_calls (l : List UInt8) (w : World) (hs : l.length ≤ 1000000) (hE : Env w) :
    Calls Tryz.prog 144 #[.string ⟨l.toArray⟩] w fun e w' => e = .returned (.bool (schemeB l)) ∧ Reach w w' := by
  have hx := fun W (hE : Env W) => check_calls true l [] 0 [] [] W (by decide) (by decide) hs (by simp) (by simp) (by simp) hE
  have HE := Lib.hid hE
  clear hE
  have he := isSch_eq l
  by_cases h0 : defPort l = 0
  · have hb : (defPort l != 0) = false := by simp [h0]
    rw [hb, Bool.false_or] at he
    rw [← he]
    cases hck : checkB ⟨true, l, [], 0, [], []⟩
    all_goals
      simp only [checkE, hck, Bool.false_eq_true, if_false, if_true] at hx
      have HX := Lib.hid hx
      clear hx hck he h0
      go_enter Tryz.func144, Tryz.ntmps144
      go_wp2_with (first | (go_at_call 56; (with_reducible refine Calls.mono (default_calls _ _) ?_); rintro e w' ⟨rfl, rfl⟩) | (go_at_call 29; (with_reducible refine Calls.mono (HX.out _ (Env.reach HE.out (by (repeat (first | (with_reducible assumption) | (with_reducible exact Reach.refl _) | (with_reducible refine Reach.alloc ?_ _) | (with_reducible refine Reach.drew ?_) | (with_reducible refine Reach.drewN ?_ _) | (with_reducible refine Reach.grow ?_ _ _) | (with_reducible refine Reach.setCell ?_ ?_ _) | (with_reducible refine Reach.trans ?_ (by with_reducible assumption)) | (show _ ≤ Addr.block _; first | (exact Nat.le_refl _) | (show (_ : Nat) ≤ _; omega)) | (simp; done) | (simp; omega)))))) ?_); rintro e w' ⟨rfl, hb⟩; obtain ⟨hc, hf, hz⟩ := Reach.facts hb) | ((with_reducible refine wp_region_quiet_below (by kernel_rfl) (by kernel_rfl) ?_); (repeat (any_goals (first | (go_big_quiet_step ((first | (go_at_call 56; with_reducible exact reg_pure (default_calls _ _)) | (go_at_call 29; with_reducible exact reg_reach (HX.out _ (Env.reach HE.out (by (repeat (first | (with_reducible assumption) | (with_reducible exact Reach.refl _) | (with_reducible refine Reach.alloc ?_ _) | (with_reducible refine Reach.drew ?_) | (with_reducible refine Reach.drewN ?_ _) | (with_reducible refine Reach.grow ?_ _ _) | (with_reducible refine Reach.setCell ?_ ?_ _) | (with_reducible refine Reach.trans ?_ (by with_reducible assumption)) | (show _ ≤ Addr.block _; first | (exact Nat.le_refl _) | (show (_ : Nat) ≤ _; omega)) | (simp; done) | (simp; omega)))))))))) | (quiet_step ((first | (go_at_call 56; with_reducible exact reg_pure (default_calls _ _)) | (go_at_call 29; with_reducible exact reg_reach (HX.out _ (Env.reach HE.out (by (repeat (first | (with_reducible assumption) | (with_reducible exact Reach.refl _) | (with_reducible refine Reach.alloc ?_ _) | (with_reducible refine Reach.drew ?_) | (with_reducible refine Reach.drewN ?_ _) | (with_reducible refine Reach.grow ?_ _ _) | (with_reducible refine Reach.setCell ?_ ?_ _) | (with_reducible refine Reach.trans ?_ (by with_reducible assumption)) | (show _ ≤ Addr.block _; first | (exact Nat.le_refl _) | (show (_ : Nat) ≤ _; omega)) | (simp; done) | (simp; omega)))))))))) | (refine wpQuiet_step (fun K hK => ?_); go_simp; split <;> (refine hK _ ?_; clear hK K))))); all_goals (refine wpQuiet_nil ?_; intro _ hw'; obtain ⟨⟨dq, osq⟩, hw''⟩ := hw'; subst hw'')))
      go_ret
      exact ⟨rfl, by (repeat (first | (with_reducible assumption) | (with_reducible exact Reach.refl _) | (with_reducible refine Reach.alloc ?_ _) | (with_reducible refine Reach.drew ?_) | (with_reducible refine Reach.drewN ?_ _) | (with_reducible refine Reach.grow ?_ _ _) | (with_reducible refine Reach.setCell ?_ ?_ _) | (with_reducible refine Reach.trans ?_ (by with_reducible assumption)) | (show _ ≤ Addr.block _; first | (exact Nat.le_refl _) | (show (_ : Nat) ≤ _; omega)) | (simp; done) | (simp; omega)))⟩
  · have hb : (defPort l != 0) = true := by simp [h0]
    rw [hb, Bool.true_or] at he
    rw [← he]
    clear he hx h0
    go_enter Tryz.func144, Tryz.ntmps144
    go_wp2_with (first | (go_at_call 56; (with_reducible refine Calls.mono (default_calls _ _) ?_); rintro e w' ⟨rfl, rfl⟩) | ((with_reducible refine wp_region_quiet_below (by kernel_rfl) (by kernel_rfl) ?_); (repeat (any_goals (first | (go_big_quiet_step ((first | (go_at_call 56; with_reducible exact reg_pure (default_calls _ _))))) | (quiet_step ((first | (go_at_call 56; with_reducible exact reg_pure (default_calls _ _))))) | (refine wpQuiet_step (fun K hK => ?_); go_simp; split <;> (refine hK _ ?_; clear hK K))))); all_goals (refine wpQuiet_nil ?_; intro _ hw'; obtain ⟨⟨dq, osq⟩, hw''⟩ := hw'; subst hw'')))
    go_ret
    exact ⟨rfl, by (repeat (first | (with_reducible assumption) | (with_reducible exact Reach.refl _) | (with_reducible refine Reach.alloc ?_ _) | (with_reducible refine Reach.drew ?_) | (with_reducible refine Reach.drewN ?_ _) | (with_reducible refine Reach.grow ?_ _ _) | (with_reducible refine Reach.setCell ?_ ?_ _) | (with_reducible refine Reach.trans ?_ (by with_reducible assumption)) | (show _ ≤ Addr.block _; first | (exact Nat.le_refl _) | (show (_ : Nat) ≤ _; omega)) | (simp; done) | (simp; omega)))⟩
/-- May a text be a source's host? -/
def hostOk (l : List UInt8) : Bool := checkB ⟨false, [104, 116, 116, 112], l, 0, [47], []⟩
set_option maxRecDepth 100000 in
set_option maxHeartbeats 1000000 in
theorem shost_calls (l : List UInt8) (w : World) (hs : l.length ≤ 1000000) (hE : Env w) :
    Calls Tryz.prog 145 #[.string ⟨l.toArray⟩] w fun e w' => e = .returned (.bool (hostOk l)) ∧ Reach w w' := by
  have hx := fun W (hE : Env W) => check_calls false [104, 116, 116, 112] l 0 [47] [] W (by decide) (by decide) (by decide) hs (by decide) (by decide) hE
  have HE := Lib.hid hE
  clear hE
  unfold hostOk
  cases hck : checkB ⟨false, [104, 116, 116, 112], l, 0, [47], []⟩
  all_goals
    simp only [checkE, hck, Bool.false_eq_true, if_false, if_true] at hx
    have HX := Lib.hid hx
    clear hx hck
    go_enter Tryz.func145, Tryz.ntmps145
    go_wp2_with (first | (go_at_call 29; (with_reducible refine Calls.mono (HX.out _ (Env.reach HE.out (by (repeat (first | (with_reducible assumption) | (with_reducible exact Reach.refl _) | (with_reducible refine Reach.alloc ?_ _) | (with_reducible refine Reach.drew ?_) | (with_reducible refine Reach.drewN ?_ _) | (with_reducible refine Reach.grow ?_ _ _) | (with_reducible refine Reach.setCell ?_ ?_ _) | (with_reducible refine Reach.trans ?_ (by with_reducible assumption)) | (show _ ≤ Addr.block _; first | (exact Nat.le_refl _) | (show (_ : Nat) ≤ _; omega)) | (simp; done) | (simp; omega)))))) ?_); rintro e w' ⟨rfl, hb⟩; obtain ⟨hc, hf, hz⟩ := Reach.facts hb) | ((with_reducible refine wp_region_quiet_below (by kernel_rfl) (by kernel_rfl) ?_); (repeat (any_goals (first | (go_big_quiet_step ((first | (go_at_call 29; with_reducible exact reg_reach (HX.out _ (Env.reach HE.out (by (repeat (first | (with_reducible assumption) | (with_reducible exact Reach.refl _) | (with_reducible refine Reach.alloc ?_ _) | (with_reducible refine Reach.drew ?_) | (with_reducible refine Reach.drewN ?_ _) | (with_reducible refine Reach.grow ?_ _ _) | (with_reducible refine Reach.setCell ?_ ?_ _) | (with_reducible refine Reach.trans ?_ (by with_reducible assumption)) | (show _ ≤ Addr.block _; first | (exact Nat.le_refl _) | (show (_ : Nat) ≤ _; omega)) | (simp; done) | (simp; omega)))))))))) | (quiet_step ((first | (go_at_call 29; with_reducible exact reg_reach (HX.out _ (Env.reach HE.out (by (repeat (first | (with_reducible assumption) | (with_reducible exact Reach.refl _) | (with_reducible refine Reach.alloc ?_ _) | (with_reducible refine Reach.drew ?_) | (with_reducible refine Reach.drewN ?_ _) | (with_reducible refine Reach.grow ?_ _ _) | (with_reducible refine Reach.setCell ?_ ?_ _) | (with_reducible refine Reach.trans ?_ (by with_reducible assumption)) | (show _ ≤ Addr.block _; first | (exact Nat.le_refl _) | (show (_ : Nat) ≤ _; omega)) | (simp; done) | (simp; omega)))))))))) | (refine wpQuiet_step (fun K hK => ?_); go_simp; split <;> (refine hK _ ?_; clear hK K))))); all_goals (refine wpQuiet_nil ?_; intro _ hw'; obtain ⟨⟨dq, osq⟩, hw''⟩ := hw'; subst hw'')))
    go_ret
    exact ⟨rfl, by (repeat (first | (with_reducible assumption) | (with_reducible exact Reach.refl _) | (with_reducible refine Reach.alloc ?_ _) | (with_reducible refine Reach.drew ?_) | (with_reducible refine Reach.drewN ?_ _) | (with_reducible refine Reach.grow ?_ _ _) | (with_reducible refine Reach.setCell ?_ ?_ _) | (with_reducible refine Reach.trans ?_ (by with_reducible assumption)) | (show _ ≤ Addr.block _; first | (exact Nat.le_refl _) | (show (_ : Nat) ≤ _; omega)) | (simp; done) | (simp; omega)))⟩
/-- A byte of a source's path. -/
def srcByte (b : UInt8) : Bool := !(decide (b.toNat < 33) || decide (126 < b.toNat) || decide (0 ≤ Lib.indexByte [63, 35, 44, 59, 58] b))
def srcPath (l : List UInt8) : Bool := l == [] || (l.all srcByte && l.head? == some 47 && decide (l.length ≤ 200))
theorem all_take (l : List UInt8) (k : Nat) (h : k < l.length) : (l.take (k + 1)).all srcByte = ((l.take k).all srcByte && srcByte l[k]) := by
  rw [List.take_succ_eq_append_getElem h, List.all_append]
  simp
theorem all_not (l : List UInt8) (k : Nat) (h : k < l.length) (hb : srcByte l[k] = false) : l.all srcByte = false := by
  rw [List.all_eq_false]
  exact ⟨l[k], List.getElem_mem h, by simp [hb]⟩
theorem idx5_calls (b : UInt8) (w : World) : Calls Tryz.prog 140 #[.string ⟨#[63, 35, 44, 59, 58]⟩, .int .u8 b.toNat] w fun e w' => e = .returned (.int .i64 (Lib.indexByte [63, 35, 44, 59, 58] b)) ∧ w = w' := by
  refine (Tryz.strings_IndexByte ⟨#[63, 35, 44, 59, 58]⟩ b.toNat w).mono fun e w' ⟨he, hw⟩ => ⟨?_, hw.symm⟩
  rw [he]
  have : ((b.toNat : Int).toNat.toUInt8) = b := by simp
  rw [this]
set_option maxRecDepth 100000 in
set_option maxHeartbeats 2000000 in
theorem spath_calls (l : List UInt8) (w : World) (hs : l.length ≤ 1000000) :
    Calls Tryz.prog 146 #[.string ⟨l.toArray⟩] w fun e w' => e = .returned (.bool (srcPath l)) ∧ w = w' := by
  cases l with
  | nil =>
    go_enter Tryz.func146, Tryz.ntmps146
    go_wp2_with (first | ((with_reducible refine wp_region_quiet_below (by kernel_rfl) (by kernel_rfl) ?_); (repeat (any_goals (first | (go_big_quiet_step (fail)) | (quiet_step (fail)) | (refine wpQuiet_step (fun K hK => ?_); go_simp; split <;> (refine hK _ ?_; clear hK K))))); all_goals (refine wpQuiet_nil ?_; intro _ hw'; obtain ⟨⟨dq, osq⟩, hw''⟩ := hw'; subst hw'')))
    go_ret
    exact ⟨rfl, rfl⟩
  | cons x xs =>
    have hd : srcPath (x :: xs) = ((x :: xs).all srcByte && (x == 47) && decide ((x :: xs).length ≤ 200)) := by
      unfold srcPath
      simp
    rw [hd]
    clear hd
    obtain ⟨L, hL⟩ : ∃ L, L = x :: xs := ⟨_, rfl⟩
    have hpos : 0 < L.length := by rw [hL]; simp
    have hx : L[0] = x := by simp [hL]
    have hne : ¬ L = [] := by rw [hL]; simp
    rw [← hL] at hs ⊢
    have hneb : (L == []) = false := by simpa using hne
    have HX := Lib.hid hx
    clear hL hx hne
    go_enter Tryz.func146, Tryz.ntmps146
    go_wp2_with fail
    go_loop [3, 4, 9] (fun _ _ i => ∃ k : Nat, k ≤ L.length ∧ i = .int .i64 k ∧ RowKit.Hid ((L.take k).all srcByte = true)) (fun _ _ i => L.length - (intOf i).toNat)
    case atStart => exact ⟨0, Nat.zero_le _, rfl, rfl⟩
    case round =>
      obtain ⟨k, hk, rfl, hrel⟩ := hrel
      by_cases hlt : k < L.length
      · have hs2 := all_take L k hlt
        have hn := all_not L k hlt
        have hi := fun W => idx5_calls L[k] W
        have hb : srcByte L[k] = !(decide (L[k].toNat < 33) || decide (126 < L[k].toNat) || decide (0 ≤ Lib.indexByte [63, 35, 44, 59, 58] L[k])) := rfl
        generalize Lib.indexByte [63, 35, 44, 59, 58] L[k] = n at *
        generalize srcByte L[k] = sb at *
        have HS := Lib.hid hs2
        have HN := Lib.hid hn
        have HI := Lib.hid hi
        clear hs2 hn hi
        by_cases h1 : L[k].toNat < 33
        · have hsb : sb = false := by rw [hb]; simp [h1]
          have HN2 := Lib.hid (HN.out hsb)
          have g1 : (L[k].toNat : Int) < 33 := by omega
          clear hb hsb h1 HN HS
          go_wp2_with (first | ((with_reducible refine wp_region_quiet_below (by kernel_rfl) (by kernel_rfl) ?_); (repeat (any_goals (first | (go_big_quiet_step (fail)) | (quiet_step (fail)) | (refine wpQuiet_step (fun K hK => ?_); go_simp; split <;> (refine hK _ ?_; clear hK K))))); all_goals (refine wpQuiet_nil ?_; intro _ hw'; obtain ⟨⟨dq, osq⟩, hw''⟩ := hw'; subst hw'')))
          go_ret
          exact ⟨ret_bool (by rw [HN2.out]; rfl), rfl⟩
        · by_cases h2 : 126 < L[k].toNat
          · have hsb : sb = false := by rw [hb]; simp [h2]
            have HN2 := Lib.hid (HN.out hsb)
            have g1 : ¬ (L[k].toNat : Int) < 33 := by omega
            have g2 : (126 : Int) < L[k].toNat := by omega
            clear hb hsb h1 h2 HN HS
            go_wp2_with (first | ((with_reducible refine wp_region_quiet_below (by kernel_rfl) (by kernel_rfl) ?_); (repeat (any_goals (first | (go_big_quiet_step (fail)) | (quiet_step (fail)) | (refine wpQuiet_step (fun K hK => ?_); go_simp; split <;> (refine hK _ ?_; clear hK K))))); all_goals (refine wpQuiet_nil ?_; intro _ hw'; obtain ⟨⟨dq, osq⟩, hw''⟩ := hw'; subst hw'')))
            go_ret
            exact ⟨ret_bool (by rw [HN2.out]; rfl), rfl⟩
          · by_cases h3 : 0 ≤ n
            · have hsb : sb = false := by rw [hb]; simp [h3]
              have HN2 := Lib.hid (HN.out hsb)
              have g1 : ¬ (L[k].toNat : Int) < 33 := by omega
              have g2 : ¬ (126 : Int) < L[k].toNat := by omega
              clear hb hsb h1 h2 HN HS
              go_wp2_with (first | (go_at_call 140; (with_reducible refine Calls.mono (HI.out _) ?_); rintro e w' ⟨rfl, rfl⟩) | ((with_reducible refine wp_region_quiet_below (by kernel_rfl) (by kernel_rfl) ?_); (repeat (any_goals (first | (go_big_quiet_step ((first | (go_at_call 140; with_reducible exact reg_pure (HI.out _))))) | (quiet_step ((first | (go_at_call 140; with_reducible exact reg_pure (HI.out _))))) | (refine wpQuiet_step (fun K hK => ?_); go_simp; split <;> (refine hK _ ?_; clear hK K))))); all_goals (refine wpQuiet_nil ?_; intro _ hw'; obtain ⟨⟨dq, osq⟩, hw''⟩ := hw'; subst hw'')))
              go_ret
              exact ⟨ret_bool (by rw [HN2.out]; rfl), rfl⟩
            · have hsb : sb = true := by rw [hb]; simp [h1, h2, h3]
              have HS2 := Lib.hid HS.out
              rw [hsb] at HS2
              have g1 : ¬ (L[k].toNat : Int) < 33 := by omega
              have g2 : ¬ (126 : Int) < L[k].toNat := by omega
              clear hb hsb h1 h2 HN HS
              go_wp2_with (first | (go_at_call 140; (with_reducible refine Calls.mono (HI.out _) ?_); rintro e w' ⟨rfl, rfl⟩) | ((with_reducible refine wp_region_quiet_below (by kernel_rfl) (by kernel_rfl) ?_); (repeat (any_goals (first | (go_big_quiet_step ((first | (go_at_call 140; with_reducible exact reg_pure (HI.out _))))) | (quiet_step ((first | (go_at_call 140; with_reducible exact reg_pure (HI.out _))))) | (refine wpQuiet_step (fun K hK => ?_); go_simp; split <;> (refine hK _ ?_; clear hK K))))); all_goals (refine wpQuiet_nil ?_; intro _ hw'; obtain ⟨⟨dq, osq⟩, hw''⟩ := hw'; subst hw'')))
              exact ⟨⟨k + 1, by omega, by go_num, by rw [HS2.out, hrel.out]; rfl⟩, by simp [intOf]; omega⟩
      · obtain rfl : k = L.length := by omega
        have h2 := hrel.out
        rw [List.take_length] at h2
        have H2 := Lib.hid h2
        clear h2
        by_cases hxx : x = 47
        · have hxb : ((L[0].toNat : Int) == 47) = true := by rw [HX.out, hxx]; rfl
          go_wp2_with (first | ((with_reducible refine wp_region_quiet_below (by kernel_rfl) (by kernel_rfl) ?_); (repeat (any_goals (first | (go_big_quiet_step (fail)) | (quiet_step (fail)) | (refine wpQuiet_step (fun K hK => ?_); go_simp; split <;> (refine hK _ ?_; clear hK K))))); all_goals (refine wpQuiet_nil ?_; intro _ hw'; obtain ⟨⟨dq, osq⟩, hw''⟩ := hw'; subst hw'')))
          go_ret
          exact ⟨ret_bool (by rw [H2.out]; first | (simp; done) | (simp; omega) | (rw [hxx]; simp)), rfl⟩
        · have hxb : ((L[0].toNat : Int) == 47) = false := by
            rw [HX.out, beq_eq_false_iff_ne]
            intro e
            apply hxx
            apply UInt8.toNat.inj
            show x.toNat = 47
            omega
          go_wp2_with (first | ((with_reducible refine wp_region_quiet_below (by kernel_rfl) (by kernel_rfl) ?_); (repeat (any_goals (first | (go_big_quiet_step (fail)) | (quiet_step (fail)) | (refine wpQuiet_step (fun K hK => ?_); go_simp; split <;> (refine hK _ ?_; clear hK K))))); all_goals (refine wpQuiet_nil ?_; intro _ hw'; obtain ⟨⟨dq, osq⟩, hw''⟩ := hw'; subst hw'')))
          go_ret
          exact ⟨ret_bool (by rw [H2.out]; simp [hxx]), rfl⟩
end Go.Proofs.YtbeaheicjopooaaGreatDoor
