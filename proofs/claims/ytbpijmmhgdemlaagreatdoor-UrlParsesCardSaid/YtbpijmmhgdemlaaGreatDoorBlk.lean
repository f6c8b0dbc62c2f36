/- Blocks that are known whole, and that they stay while memory only grows; no condition. -/
import Derived.Test.YtbpijmmhgdemlaaGreatDoorBase
namespace Go.Proofs.YtbpijmmhgdemlaaGreatDoor
open Go.RowKit Go.Sort
/-- Block B holds just these cells, and they may be written. -/
def Blk (w : World) (B : Nat) (cs : Array Value) (t : TypeId) : Prop := w.heap[B]? = some (.cells cs t (0, 0))
theorem Blk.lt {w : World} {B : Nat} {cs : Array Value} {t : TypeId} (h : Blk w B cs t) : B < w.heap.size := (Array.getElem?_eq_some_iff.1 h).1
theorem Blk.reach {w w' : World} {B : Nat} {cs : Array Value} {t : TypeId} (h : Blk w B cs t) (hr : Reach w w') : Blk w' B cs t := (Below.block hr B h.lt).trans h
theorem Blk.set {w : World} {B : Nat} {cs : Array Value} {t : TypeId} (h : Blk w B cs t) (p : Addr) (hp : B ≠ p.block) (v : Value) : Blk (w.setCell p v) B cs t := (Below.heap_setCell w p v B hp).trans h
theorem Blk.cell {w : World} {B : Nat} {cs : Array Value} {t : TypeId} (h : Blk w B cs t) (i : Nat) : w.cell? ⟨B, i, none⟩ = cs[i]? := by
  unfold Blk at h
  simp [World.cell?, h]
theorem Blk.frozen {w : World} {B : Nat} {cs : Array Value} {t : TypeId} (h : Blk w B cs t) (i : Nat) : w.frozen? ⟨B, i, none⟩ = false := by
  unfold Blk at h
  simp [World.frozen?, h]
theorem Blk.new (w : World) (cs : Array Value) (t : TypeId) : Blk (w.alloc (.cells cs t)) w.heap.size cs t := by
  unfold Blk
  simp [World.alloc, -World.alloc_eq]
theorem Blk.put {w : World} {B : Nat} {cs : Array Value} {t : TypeId} (h : Blk w B cs t) (i : Nat) (v : Value) : Blk (w.setCell ⟨B, i, none⟩ v) B (cs.setIfInBounds i v) t := by
  obtain ⟨hlt, hk⟩ := Array.getElem?_eq_some_iff.1 h
  show (w.heap.modify B _)[B]? = _
  rw [Array.getElem?_eq_getElem (by rw [Array.size_modify]; exact hlt), Array.getElem_modify_self, hk]
  rfl
theorem Blk.to {w : World} {B : Nat} {cs ds : Array Value} {t : TypeId} (h : Blk w B cs t) (e : cs = ds) : Blk w B ds t := e ▸ h
/-- A struct of two cells. -/
theorem Blk.one {w : World} {B : Nat} {a : Value} {t : TypeId} (h : Blk w B #[a] t) : w.cell? ⟨B, 0, none⟩ = some a ∧ w.frozen? ⟨B, 0, none⟩ = false := ⟨h.cell 0, h.frozen 0⟩
theorem Blk.two {w : World} {B : Nat} {a b : Value} {t : TypeId} (h : Blk w B #[a, b] t) : w.cell? ⟨B, 0, none⟩ = some a ∧ w.cell? ⟨B, 1, none⟩ = some b := ⟨h.cell 0, h.cell 1⟩
theorem Blk.three {w : World} {B : Nat} {a b c : Value} {t : TypeId} (h : Blk w B #[a, b, c] t) : w.cell? ⟨B, 0, none⟩ = some a ∧ w.cell? ⟨B, 1, none⟩ = some b ∧ w.cell? ⟨B, 2, none⟩ = some c := ⟨h.cell 0, h.cell 1, h.cell 2⟩
theorem Blk.four {w : World} {B : Nat} {a b c d : Value} {t : TypeId} (h : Blk w B #[a, b, c, d] t) :
    w.cell? ⟨B, 0, none⟩ = some a ∧ w.cell? ⟨B, 1, none⟩ = some b ∧ w.cell? ⟨B, 2, none⟩ = some c ∧ w.cell? ⟨B, 3, none⟩ = some d := ⟨h.cell 0, h.cell 1, h.cell 2, h.cell 3⟩
theorem Blk.fourf {w : World} {B : Nat} {a b c d : Value} {t : TypeId} (h : Blk w B #[a, b, c, d] t) :
    (w.cell? ⟨B, 0, none⟩ = some a ∧ w.cell? ⟨B, 1, none⟩ = some b ∧ w.cell? ⟨B, 2, none⟩ = some c ∧ w.cell? ⟨B, 3, none⟩ = some d) ∧
    w.frozen? ⟨B, 0, none⟩ = false ∧ w.frozen? ⟨B, 1, none⟩ = false ∧ w.frozen? ⟨B, 2, none⟩ = false ∧ w.frozen? ⟨B, 3, none⟩ = false := ⟨h.four, h.frozen 0, h.frozen 1, h.frozen 2, h.frozen 3⟩
/-- A struct of six cells. -/
theorem Blk.six {w : World} {B : Nat} {a b c d e f : Value} {t : TypeId} (h : Blk w B #[a, b, c, d, e, f] t) :
    w.cell? ⟨B, 0, none⟩ = some a ∧ w.cell? ⟨B, 1, none⟩ = some b ∧ w.cell? ⟨B, 2, none⟩ = some c ∧ w.cell? ⟨B, 3, none⟩ = some d ∧ w.cell? ⟨B, 4, none⟩ = some e ∧ w.cell? ⟨B, 5, none⟩ = some f :=
  ⟨h.cell 0, h.cell 1, h.cell 2, h.cell 3, h.cell 4, h.cell 5⟩
theorem Blk.seven {w : World} {B : Nat} {a b c d e f g : Value} {t : TypeId} (h : Blk w B #[a, b, c, d, e, f, g] t) :
    w.cell? ⟨B, 0, none⟩ = some a ∧ w.cell? ⟨B, 1, none⟩ = some b ∧ w.cell? ⟨B, 2, none⟩ = some c ∧ w.cell? ⟨B, 3, none⟩ = some d ∧ w.cell? ⟨B, 4, none⟩ = some e ∧ w.cell? ⟨B, 5, none⟩ = some f ∧ w.cell? ⟨B, 6, none⟩ = some g :=
  ⟨h.cell 0, h.cell 1, h.cell 2, h.cell 3, h.cell 4, h.cell 5, h.cell 6⟩
theorem Blk.sixf {w : World} {B : Nat} {a b c d e f : Value} {t : TypeId} (h : Blk w B #[a, b, c, d, e, f] t) :
    (w.cell? ⟨B, 0, none⟩ = some a ∧ w.cell? ⟨B, 1, none⟩ = some b ∧ w.cell? ⟨B, 2, none⟩ = some c ∧ w.cell? ⟨B, 3, none⟩ = some d ∧ w.cell? ⟨B, 4, none⟩ = some e ∧ w.cell? ⟨B, 5, none⟩ = some f) ∧
    w.frozen? ⟨B, 0, none⟩ = false ∧ w.frozen? ⟨B, 1, none⟩ = false ∧ w.frozen? ⟨B, 2, none⟩ = false ∧ w.frozen? ⟨B, 3, none⟩ = false ∧ w.frozen? ⟨B, 4, none⟩ = false ∧ w.frozen? ⟨B, 5, none⟩ = false := ⟨h.six, h.frozen 0, h.frozen 1, h.frozen 2, h.frozen 3, h.frozen 4, h.frozen 5⟩
theorem Blk.sevenf {w : World} {B : Nat} {a b c d e f g : Value} {t : TypeId} (h : Blk w B #[a, b, c, d, e, f, g] t) :
    (w.cell? ⟨B, 0, none⟩ = some a ∧ w.cell? ⟨B, 1, none⟩ = some b ∧ w.cell? ⟨B, 2, none⟩ = some c ∧ w.cell? ⟨B, 3, none⟩ = some d ∧ w.cell? ⟨B, 4, none⟩ = some e ∧ w.cell? ⟨B, 5, none⟩ = some f ∧ w.cell? ⟨B, 6, none⟩ = some g) ∧
    w.frozen? ⟨B, 0, none⟩ = false ∧ w.frozen? ⟨B, 1, none⟩ = false ∧ w.frozen? ⟨B, 2, none⟩ = false ∧ w.frozen? ⟨B, 3, none⟩ = false ∧ w.frozen? ⟨B, 4, none⟩ = false ∧ w.frozen? ⟨B, 5, none⟩ = false ∧ w.frozen? ⟨B, 6, none⟩ = false := ⟨h.seven, h.frozen 0, h.frozen 1, h.frozen 2, h.frozen 3, h.frozen 4, h.frozen 5, h.frozen 6⟩
end Go.Proofs.YtbpijmmhgdemlaaGreatDoor
