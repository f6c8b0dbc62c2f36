/- What the walks lean on of Go's package-level variables (a table of powers of ten, a bound of the library's), and that it stays while memory only grows. -/
import Derived.Test.YtbeaheicjopooaaGreatDoorProg
import Derived.Test.YtbeaheicjopooaaGreatDoorBase
import Derived.WalkSmall
import Derived.Lib.LaidTab
import Derived.Lib.ItoaNum
import Derived.Shelf.Strconv.Itoa3
import Derived.StillTail
import Derived.Lib.QuietBelow
namespace Go.Proofs.YtbeaheicjopooaaGreatDoor
open Go.RowKit Go.Sort

/-- The package-level variables lie below this block. -/
def NG : Nat := 9
structure Env (W : World) : Prop where
  size : NG ≤ W.heap.size
  pow : Lib.TabIs Tryz.prog W "internal/strconv.uint64pow10" .u64 Lib.pow10Tab
  powg : 4 < W.heap.size
  maxl : ∃ m, W.cell? ⟨0, 0, none⟩ = some (.int .i64 m)
theorem Env.maxg {W : World} (h : Env W) : 0 < W.heap.size := by
  obtain ⟨m, hm⟩ := h.maxl
  exact block_lt_of_cell hm
theorem Env.reach {w w' : World} (h : Env w) (hr : Reach w w') : Env w' := by
  refine ⟨Nat.le_trans h.size hr.size, var?_below hr (by kernel_rfl) h.powg h.pow, Nat.lt_of_lt_of_le h.powg hr.size, ?_⟩
  obtain ⟨m, hm⟩ := h.maxl
  exact ⟨m, by rw [(Reach.facts hr).1 _ _ (Env.maxg h)]; exact hm⟩
theorem Env.set {w : World} (h : Env w) (p : Addr) (v : Value) (hp : NG ≤ p.block) : Env (w.setCell p v) := by
  have hk : ∀ k, k < NG → (w.setCell p v).heap[k]? = w.heap[k]? := fun k hk => Below.heap_setCell w p v k (by omega)
  refine ⟨by rw [World.size_setCell]; exact h.size, ?_, by rw [World.size_setCell]; exact h.powg, ?_⟩
  · have hg : Tryz.prog.globalNamed "internal/strconv.uint64pow10" = some 4 := by kernel_rfl
    have := h.pow
    unfold Lib.TabIs World.var? at this ⊢
    simp only [hg, Option.bind_some] at this ⊢
    rw [hk _ (by decide)]
    exact this
  · obtain ⟨m, hm⟩ := h.maxl
    refine ⟨m, ?_⟩
    rw [World.cell?_setCell_other _ _ _ _ (by intro e; rw [e] at hp; exact absurd hp (by decide))]
    exact hm

open Go.RowKit Go.Sort
/-- What the call itself appended: the values cs lie in a row of its own, behind W1. -/
def Own (t : TypeId) (W1 wr : World) (v : Value) (cs : List Value) : Prop := Reach W1 wr ∧ wr.ownsRow W1.heap.size t 1 v cs.length cs
theorem Own.nil (t : TypeId) (W1 : World) : Own t W1 W1 (.slice none 0 0) [] := ⟨Reach.refl _, rfl, .inl ⟨rfl, rfl⟩⟩
theorem Own.start {W1 wr : World} (t : TypeId) (h : Reach W1 wr) : Own t W1 wr (.slice none 0 0) [] := ⟨h, rfl, .inl ⟨rfl, rfl⟩⟩
theorem Own.cases {t : TypeId} {W1 wr : World} {v : Value} {cs : List Value} (h : Own t W1 wr v cs) : (v = .slice none 0 0 ∧ cs = []) ∨ ∃ g cap, v = .slice (some ⟨g, 0, none⟩) cs.length cap ∧ cs.length ≤ cap ∧ cap ≤ maxLen := by
  obtain ⟨_, h1, h2⟩ := h
  rcases h2 with ⟨a, b⟩ | ⟨g, cap, cur, a, b, c, d, e, _⟩
  · exact .inl ⟨a, List.eq_nil_of_length_eq_zero b⟩
  · exact .inr ⟨g, cap, a, d, e⟩
theorem Own.push {t : TypeId} {W1 wr w1 : World} {v v' : Value} {cs : List Value} {p : Value} (o : Obj) (h : Own t W1 wr v cs) (ho : w1.ownsRow W1.heap.size t 1 v' (cs.length + 1) (cs ++ [p]))
    (hg : (wr.alloc o).grownBy w1 v.ownBlock) : Own t W1 w1 v' (cs ++ [p]) := by
  refine ⟨Below.grown (Reach.alloc h.1 o) hg (by rw [World.size_alloc]; have := h.1.size; omega) (fun k hk => ?_), ?_⟩
  · obtain ⟨_, _, h2⟩ := h
    rcases h2 with ⟨a, b⟩ | ⟨g, cap, cur, a, b, _⟩
    · rw [a] at hk; cases hk
    · rw [a] at hk; cases hk; exact b
  · rw [List.length_append]
    exact ho
theorem Own.pop {t : TypeId} {W1 wr : World} {g cap : Nat} {cs : List Value} (hne : cs ≠ []) (h : Own t W1 wr (.slice (some ⟨g, 0, none⟩) cs.length cap) cs) : Own t W1 wr (.slice (some ⟨g, 0, none⟩) (cs.length - 1) cap) cs.dropLast := by
  obtain ⟨hr, ho⟩ := h
  obtain ⟨ys, y, rfl⟩ : ∃ ys y, cs = ys ++ [y] := ⟨cs.dropLast, cs.getLast hne, (List.dropLast_concat_getLast hne).symm⟩
  have e : (ys ++ [y]).length = ys.length + 1 := by simp
  rw [e] at ho ⊢
  rw [List.dropLast_concat, Nat.add_sub_cancel]
  exact ⟨hr, ownsRow_pop (last := [y]) (by simp) ho⟩
theorem Own.alloc {t : TypeId} {W1 wr : World} {v : Value} {cs : List Value} (h : Own t W1 wr v cs) (o : Obj) : (wr.alloc o).ownsRow W1.heap.size t 1 v cs.length cs := h.2.alloc o
theorem Own.cellAt {t : TypeId} {W1 wr : World} {g cap : Nat} {cs : List Value} (h : Own t W1 wr (.slice (some ⟨g, 0, none⟩) cs.length cap) cs) :
    g < wr.heap.size ∧ ∀ j (hj : j < cs.length), wr.cell? ⟨g, j, none⟩ = some cs[j] := by
  obtain ⟨hr, h1, h2⟩ := h
  rcases h2 with ⟨a, _⟩ | ⟨g', cap', cur, a, b, c, d, e, f, tk⟩
  · cases a
  · cases a
    refine ⟨(Array.getElem?_eq_some_iff.1 c).1, fun j hj => ?_⟩
    have e1 : cs[j]? = some cs[j] := List.getElem?_eq_getElem hj
    have e2 : (cur.toList.take (cs.length * 1))[j]? = cs[j]? := by rw [tk]
    rw [List.getElem?_take, if_pos (by omega), e1] at e2
    simp only [World.cell?, c]
    simpa using e2
/-- Bytes as values. -/
def byteV (l : List UInt8) : List Value := l.map fun b => Value.int .u8 (b.toNat : Int)
theorem byteV_length (l : List UInt8) : (byteV l).length = l.length := by simp [byteV]
theorem byteV_snoc (l : List UInt8) (b : UInt8) : byteV (l ++ [b]) = byteV l ++ [Value.int .u8 (b.toNat : Int)] := by simp [byteV]
theorem info_byte : (Tryz.prog.info? 5).map (fun i => (i.zero, i.size, i.bytes)) = some (some (.int .u8 0), 1, 1) := by kernel_rfl

open Go Go.RowKit Go.Sort
section
variable {P : Program} {ops : Array Oper} {C : World → Prop}
/-- Whatever order is picked among the first n operations; L behind them. -/
def aheadQ (P : Program) (ops : Array Oper) (C : World → Prop) (n : Nat) (L : Array Bool → Act → Prop) : Nat → Array Bool → Act → Prop
  | 0, listed, a => L listed a
  | f + 1, listed, a => Region.ready .any ops listed ≠ [] ∧ ∀ i ∈ Region.ready .any ops listed, i < n ∧ qOp P ops C i (aheadQ P ops C n L f (listed.setIfInBounds i true)) a
theorem any_of_ahead {n g : Nat} {L : Array Bool → Act → Prop} {Q : Exit → Act → World → Prop} (hL : ∀ listed a w, C w → L listed a → wpAny P .any ops Q g listed a w) (f : Nat) :
    ∀ (listed : Array Bool) (a : Act) (w : World), C w → aheadQ P ops C n L f listed a → wpAny P .any ops Q (f + g) listed a w := by
  induction f with
  | zero => intro listed a w hw h; rw [Nat.zero_add]; exact hL _ _ _ hw h
  | succ f ih =>
    intro listed a w hw h
    rw [Nat.add_right_comm]
    exact ⟨fun h0 => absurd h0 h.1, fun i hi => wpOp_of_qOp hw (fun a' w' hw' h' => ih _ a' w' hw' h') (h.2 i hi).2⟩
theorem ahead_first {n i : Nat} {oi : Oper} {v : Value} {L : Array Bool → Act → Prop} (hi : ops[i]? = some oi) (hsel : ∀ (j : Nat) (o : Oper) cs b, ops[j]? = some o → o.op ≠ .select cs b)
    (hs : Region.sinkB .any ops n = true) (hc : Region.chainB .any ops n = true) (hn : n < ops.size) (hin : i < n) (hdone : ∀ listed a, L listed a → ∀ j ∈ Region.ready .any ops listed, n ≤ j) (f : Nat) :
    ∀ (listed : Array Bool) (a : Act), HeadInv .any ops n listed →
      (∀ j oj, ops[j]? = some oj → j ≠ i → listed.getD j true = false → (∀ e ∈ oj.after, Region.binds .any e = true → e.on ≠ i) → oi.apart ops oj = true) →
      i ∈ Region.ready .any ops listed → YieldsIn P ops C oi v a →
      aheadQ P ops C n L f (listed.setIfInBounds i true) (a.put oi.dst v) → aheadQ P ops C n L (f + 1) listed a := by
  induction f with
  | zero =>
    intro listed a inv _ hr hy H
    have hun := (mem_ready.1 hr).1
    refine ⟨List.ne_nil_of_mem hr, fun j hj => ?_⟩
    have hjn : j < n := Nat.lt_of_not_le fun h => tail_waits hs hc hn inv _ i rfl hin hun j h hj
    refine ⟨hjn, ?_⟩
    by_cases hji : j = i
    · subst hji; exact hy.qOp hi H
    · have := hdone _ _ H j (ready_mono hj hji)
      omega
  | succ f ih =>
    intro listed a inv hfree hr hy H
    have hun := (mem_ready.1 hr).1
    refine ⟨List.ne_nil_of_mem hr, fun j hj => ?_⟩
    have hjn : j < n := Nat.lt_of_not_le fun h => tail_waits hs hc hn inv _ i rfl hin hun j h hj
    refine ⟨hjn, ?_⟩
    by_cases hji : j = i
    · subst hji; exact hy.qOp hi H
    · obtain ⟨hjun, oj, hoj, hall⟩ := mem_ready.1 hj
      have hno : ∀ e ∈ oj.after, Region.binds .any e = true → e.on ≠ i := fun e he hb heq => by
        have h1 := hall e he hb
        rw [heq, getD_both hun] at h1
        cases h1
      have h2 := qOp_put hoj (hfree j oj hoj hji hjun hno) (fun cs b => hsel i oi cs b hi) (fun cs b => hsel j oj cs b hoj) hy (H.2 j (ready_mono hj hji)).2
      refine qOp_mono (fun a' h3 => ih (listed.setIfInBounds j true) a' (inv.set hj hjn) (fun k ok hk hki hku hkn => hfree k ok hk hki ?_ hkn) (ready_mono hr (Ne.symm hji)) h3.1 ?_) h2
      · by_cases hjk : j = k
        · subst hjk; exact hjun
        · rwa [getD_set_ne true hjk] at hku
      · rw [Array.setIfInBounds_comm _ _ hji]
        exact h3.2
theorem ahead_lex {n g : Nat} {Lq : Act → Prop} (hsel : Region.noSelect ops = true) (hs : Region.sinkB .any ops n = true) (hc : Region.chainB .any ops n = true) (hn : n < ops.size) (l : List Oper) :
    ∀ (k : Nat) (listed : Array Bool) (a : Act), (∀ j, j < l.length → l[j]? = ops[k + j]?) → k + l.length = n → HeadInv .any ops n listed →
    Region.lexHead .any ops g l.length k listed = true → wpQuiet P ops C Lq l a →
    aheadQ P ops C n (fun listed' a' => Region.seqB .any ops g n listed' = true ∧ Lq a') l.length listed a := by
  induction l with
  | nil =>
    intro k listed a _ hk _ hB h
    obtain rfl : k = n := by simpa using hk
    exact ⟨by simpa [Region.lexHead] using hB, h⟩
  | cons o l ih =>
    intro k listed a hl hk inv hB h
    have h0 : ops[k]? = some o := by simpa using (hl 0 (by simp)).symm
    simp only [List.length_cons, Region.lexHead, Bool.and_eq_true] at hB hk
    obtain ⟨⟨hr, hf⟩, hB'⟩ := hB
    have hr' : k ∈ Region.ready .any ops listed := by simpa using hr
    have hq : qOp P ops C k (wpQuiet P ops C Lq l) a := by unfold qOp; simp only [h0]; exact h
    obtain ⟨v, hy, hK⟩ := yieldsIn_of_qOp h0 hq
    refine ahead_first h0 (Region.noSelect_spec hsel) hs hc hn (by omega) (fun listed' a' hL => seqB_ready hL.1) l.length listed a inv (Region.free_spec h0 hf) hr' hy ?_
    exact ih (k + 1) _ _ (fun j hj => by have := hl (j + 1) (by simp; omega); simpa [Nat.add_assoc, Nat.add_comm 1 j] using this) (by omega) (inv.set hr' (by omega)) hB' hK
/-- The first n operations read, or lay blocks by calls; the others stand in one forced order. -/
theorem wp_region_tail {id : Nat} {Q : Exit → Act → World → Prop} {a : Act} {w : World} {l : List Oper} (n : Nat) (hm : P.follows .mixedOrders = true) (hB : Region.lexTailB .any l.toArray n = true)
    (h : wpQuiet P l.toArray (fun w' => ∃ p : Regrown, w' = grow (redrawn w p.d) p.os) (fun a' => ∀ w', (∃ p : Regrown, w' = grow (redrawn w p.d) p.os) → wpList P l.toArray Q (l.drop n) a' w') (l.take n) a) : (Code.region id l.toArray true).wp P Q a w := by
  simp only [Region.lexTailB, Bool.and_eq_true, decide_eq_true_eq] at hB
  obtain ⟨⟨⟨⟨hsel, hn⟩, hs⟩, hc⟩, hlex⟩ := hB
  have hn' : n < l.length := by simpa using hn
  have htl : (l.take n).length = n := by simp; omega
  have hdl : (l.drop n).length = l.toArray.size - n := by simp
  have inv0 : HeadInv .any l.toArray n (Array.replicate l.toArray.size false) :=
    ⟨by simp, fun j oj _ hl => (by rw [getD_replicate_false] at hl; cases hl), fun t _ ht => getD_in (by simpa using ht) (getD_replicate_false _ _)⟩
  have H := ahead_lex (g := l.toArray.size - n) hsel hs hc hn (l.take n) 0 _ a (fun j hj => by
    have hj' : j < n := by rw [htl] at hj; exact hj
    simp [hj']) (by simpa using htl) inv0 (by rw [htl]; exact hlex) h
  refine wp_region_any hm ?_
  have := any_of_ahead (Q := Q) (g := l.toArray.size - n) (fun listed a' w' hw' hL => by
    have := wpAny_of_seq (md := .any) (Q' := Q) (l.drop n) n listed a' w' (fun j => by simp [List.getElem?_drop]) (by rw [hdl]; exact hL.1) (hL.2 w' hw')
    rwa [hdl] at this) _ _ _ { w with drawn := w.drawn + 1 } ⟨⟨w.drawn + 1, #[]⟩, by rw [grow_empty]; rfl⟩ H
  rw [htl, show n + (l.toArray.size - n) = l.toArray.size by omega] at this
  exact this
end
end Go.Proofs.YtbeaheicjopooaaGreatDoor
