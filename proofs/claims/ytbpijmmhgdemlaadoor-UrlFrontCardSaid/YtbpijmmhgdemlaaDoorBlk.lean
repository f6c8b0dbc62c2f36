/- Blocks that are known whole, and that they stay while memory only grows; no condition. -/
import Derived.Test.YtbpijmmhgdemlaaDoorBase
namespace Go.Proofs.YtbpijmmhgdemlaaDoor
open Go.RowKit Go.Sort
/-- Block B holds just these cells, and they may be written. -/
def Blk (w : World) (B : Nat) (cs : Array Value) (t : TypeId) : Prop := w.heap[B]? = some (.cells cs t (0, 0))
theorem Blk.lt {w : World} {B : Nat} {cs : Array Value} {t : TypeId} (h : Blk w B cs t) : B < w.heap.size := (Array.getElem?_eq_some_iff.1 h).1
theorem Blk.reach {w w' : World} {B : Nat} {cs : Array Value} {t : TypeId} (h : Blk w B cs t) (hr : Reach w w') : Blk w' B cs t := (Below.block hr B h.lt).trans h
theorem Blk.set {w : World} {B : Nat} {cs : Array Value} {t : TypeId} (h : Blk w B cs t) (p : Addr) (hp : B ≠ p.block) (v : Value) : Blk (w.setCell p v) B cs t := (Below.heap_setCell w p v B hp).trans h
theorem Blk.cell {w : World} {B : Nat} {cs : Array Value} {t : TypeId} (h : Blk w B cs t) (i : Nat) : w.cell? ⟨B, i, none⟩ = cs[i]? := by
  unfold Blk at h
  simp [World.cell?, h]
theorem Blk.frozen {w : World} {B : Nat} {cs : Array Value} {t : TypeId} (h : Blk w B cs t) (i : Nat) : w.frozen? ⟨B, i, none⟩ = false := by
  unfold Blk at h
  simp [World.frozen?, h]
theorem Blk.new (w : World) (cs : Array Value) (t : TypeId) : Blk (w.alloc (.cells cs t)) w.heap.size cs t := by
  unfold Blk
  simp [World.alloc, -World.alloc_eq]
/-- A struct of six cells. -/
theorem Blk.six {w : World} {B : Nat} {a b c d e f : Value} {t : TypeId} (h : Blk w B #[a, b, c, d, e, f] t) :
    w.cell? ⟨B, 0, none⟩ = some a ∧ w.cell? ⟨B, 1, none⟩ = some b ∧ w.cell? ⟨B, 2, none⟩ = some c ∧ w.cell? ⟨B, 3, none⟩ = some d ∧ w.cell? ⟨B, 4, none⟩ = some e ∧ w.cell? ⟨B, 5, none⟩ = some f :=
  ⟨h.cell 0, h.cell 1, h.cell 2, h.cell 3, h.cell 4, h.cell 5⟩
end Go.Proofs.YtbpijmmhgdemlaaDoor
