/- What the walks lean on of Go's package-level variables (a table of powers of ten, a bound of the library's), and that it stays while memory only grows. -/
import Derived.Test.YtbpijmmhgdemlaaGreatDoorProg
import Derived.Test.YtbpijmmhgdemlaaGreatDoorBase
import Derived.WalkSmall
import Derived.Lib.LaidTab
import Derived.Lib.ItoaNum
import Derived.Shelf.Strconv.Itoa3
namespace Go.Proofs.YtbpijmmhgdemlaaGreatDoor
open Go.RowKit Go.Sort

/-- The package-level variables lie below this block. -/
def NG : Nat := 9
structure Env (W : World) : Prop where
  size : NG ≤ W.heap.size
  pow : Lib.TabIs Tryz.prog W "internal/strconv.uint64pow10" .u64 Lib.pow10Tab
  powg : 2 < W.heap.size
  maxl : ∃ m, W.cell? ⟨0, 0, none⟩ = some (.int .i64 m)
theorem Env.maxg {W : World} (h : Env W) : 0 < W.heap.size := by
  obtain ⟨m, hm⟩ := h.maxl
  exact block_lt_of_cell hm
theorem Env.reach {w w' : World} (h : Env w) (hr : Reach w w') : Env w' := by
  refine ⟨Nat.le_trans h.size hr.size, var?_below hr (by kernel_rfl) h.powg h.pow, Nat.lt_of_lt_of_le h.powg hr.size, ?_⟩
  obtain ⟨m, hm⟩ := h.maxl
  exact ⟨m, by rw [(Reach.facts hr).1 _ _ (Env.maxg h)]; exact hm⟩
theorem Env.set {w : World} (h : Env w) (p : Addr) (v : Value) (hp : NG ≤ p.block) : Env (w.setCell p v) := by
  have hk : ∀ k, k < NG → (w.setCell p v).heap[k]? = w.heap[k]? := fun k hk => Below.heap_setCell w p v k (by omega)
  refine ⟨by rw [World.size_setCell]; exact h.size, ?_, by rw [World.size_setCell]; exact h.powg, ?_⟩
  · have hg : Tryz.prog.globalNamed "internal/strconv.uint64pow10" = some 2 := by kernel_rfl
    have := h.pow
    unfold Lib.TabIs World.var? at this ⊢
    simp only [hg, Option.bind_some] at this ⊢
    rw [hk _ (by decide)]
    exact this
  · obtain ⟨m, hm⟩ := h.maxl
    refine ⟨m, ?_⟩
    rw [World.cell?_setCell_other _ _ _ _ (by intro e; rw [e] at hp; exact absurd hp (by decide))]
    exact hm
end Go.Proofs.YtbpijmmhgdemlaaGreatDoor
