/- A row of one-cell values that a call itself appends; no condition. -/
import Derived.Test.YtbpijmmhgdemlaaGreatDoorProg
import Derived.Test.YtbpijmmhgdemlaaGreatDoorBase
import Derived.WalkSmall
namespace Go.Proofs.YtbpijmmhgdemlaaGreatDoor
open Go.RowKit Go.Sort
/-- What the call itself appended: the values cs lie in a row of its own, behind W1. -/
def Own (t : TypeId) (W1 wr : World) (v : Value) (cs : List Value) : Prop := Reach W1 wr ∧ wr.ownsRow W1.heap.size t 1 v cs.length cs
theorem Own.nil (t : TypeId) (W1 : World) : Own t W1 W1 (.slice none 0 0) [] := ⟨Reach.refl _, rfl, .inl ⟨rfl, rfl⟩⟩
theorem Own.start {W1 wr : World} (t : TypeId) (h : Reach W1 wr) : Own t W1 wr (.slice none 0 0) [] := ⟨h, rfl, .inl ⟨rfl, rfl⟩⟩
theorem Own.cases {t : TypeId} {W1 wr : World} {v : Value} {cs : List Value} (h : Own t W1 wr v cs) : (v = .slice none 0 0 ∧ cs = []) ∨ ∃ g cap, v = .slice (some ⟨g, 0, none⟩) cs.length cap ∧ cs.length ≤ cap ∧ cap ≤ maxLen := by
  obtain ⟨_, h1, h2⟩ := h
  rcases h2 with ⟨a, b⟩ | ⟨g, cap, cur, a, b, c, d, e, _⟩
  · exact .inl ⟨a, List.eq_nil_of_length_eq_zero b⟩
  · exact .inr ⟨g, cap, a, d, e⟩
theorem Own.push {t : TypeId} {W1 wr w1 : World} {v v' : Value} {cs : List Value} {p : Value} (o : Obj) (h : Own t W1 wr v cs) (ho : w1.ownsRow W1.heap.size t 1 v' (cs.length + 1) (cs ++ [p]))
    (hg : (wr.alloc o).grownBy w1 v.ownBlock) : Own t W1 w1 v' (cs ++ [p]) := by
  refine ⟨Below.grown (Reach.alloc h.1 o) hg (by rw [World.size_alloc]; have := h.1.size; omega) (fun k hk => ?_), ?_⟩
  · obtain ⟨_, _, h2⟩ := h
    rcases h2 with ⟨a, b⟩ | ⟨g, cap, cur, a, b, _⟩
    · rw [a] at hk; cases hk
    · rw [a] at hk; cases hk; exact b
  · rw [List.length_append]
    exact ho
theorem Own.pop {t : TypeId} {W1 wr : World} {g cap : Nat} {cs : List Value} (hne : cs ≠ []) (h : Own t W1 wr (.slice (some ⟨g, 0, none⟩) cs.length cap) cs) : Own t W1 wr (.slice (some ⟨g, 0, none⟩) (cs.length - 1) cap) cs.dropLast := by
  obtain ⟨hr, ho⟩ := h
  obtain ⟨ys, y, rfl⟩ : ∃ ys y, cs = ys ++ [y] := ⟨cs.dropLast, cs.getLast hne, (List.dropLast_concat_getLast hne).symm⟩
  have e : (ys ++ [y]).length = ys.length + 1 := by simp
  rw [e] at ho ⊢
  rw [List.dropLast_concat, Nat.add_sub_cancel]
  exact ⟨hr, ownsRow_pop (last := [y]) (by simp) ho⟩
theorem Own.alloc {t : TypeId} {W1 wr : World} {v : Value} {cs : List Value} (h : Own t W1 wr v cs) (o : Obj) : (wr.alloc o).ownsRow W1.heap.size t 1 v cs.length cs := h.2.alloc o
theorem Own.cellAt {t : TypeId} {W1 wr : World} {g cap : Nat} {cs : List Value} (h : Own t W1 wr (.slice (some ⟨g, 0, none⟩) cs.length cap) cs) :
    g < wr.heap.size ∧ ∀ j (hj : j < cs.length), wr.cell? ⟨g, j, none⟩ = some cs[j] := by
  obtain ⟨hr, h1, h2⟩ := h
  rcases h2 with ⟨a, _⟩ | ⟨g', cap', cur, a, b, c, d, e, f, tk⟩
  · cases a
  · cases a
    refine ⟨(Array.getElem?_eq_some_iff.1 c).1, fun j hj => ?_⟩
    have e1 : cs[j]? = some cs[j] := List.getElem?_eq_getElem hj
    have e2 : (cur.toList.take (cs.length * 1))[j]? = cs[j]? := by rw [tk]
    rw [List.getElem?_take, if_pos (by omega), e1] at e2
    simp only [World.cell?, c]
    simpa using e2
/-- Bytes as values. -/
def byteV (l : List UInt8) : List Value := l.map fun b => Value.int .u8 (b.toNat : Int)
theorem byteV_length (l : List UInt8) : (byteV l).length = l.length := by simp [byteV]
theorem byteV_snoc (l : List UInt8) (b : UInt8) : byteV (l ++ [b]) = byteV l ++ [Value.int .u8 (b.toNat : Int)] := by simp [byteV]
theorem info_byte : (Tryz.prog.info? 5).map (fun i => (i.zero, i.size, i.bytes)) = some (some (.int .u8 0), 1, 1) := by kernel_rfl
end Go.Proofs.YtbpijmmhgdemlaaGreatDoor
