/- Small facts on worlds, calls and bytes that the walks of this seat use; no condition. -/
import Derived.WalkKit
import Derived.WalkSpells
import Derived.WalkLawsBesides
import Derived.Lib.Hide
import Derived.Shelf.Abstract
import Derived.ScopeJumps
import Derived.Lib.QuietBelow
import Derived.BigQuiet
import Derived.Deep.Light
namespace Go.Proofs.YtbeaheicjopooaaGreatDoor
open Go.RowKit Go.Sort Go.BigFrame

/-- Of what lay in w nothing has turned in w'; blocks may have been laid. -/
def Reach (w w' : World) : Prop := Below w.heap.size w w'
theorem Reach.refl (w : World) : Reach w w := Below.refl _ _
theorem Reach.size {w w' : World} (h : Reach w w') : w.heap.size ≤ w'.heap.size := Below.size h
theorem Reach.trans {a b c : World} (h : Reach a b) (k : Reach b c) : Reach a c := Below.trans h (Below.mono k h.size)
theorem Reach.alloc {a b : World} (h : Reach a b) (o : Obj) : Reach a (b.alloc o) := Below.alloc h h.size o
theorem Reach.drew {a b : World} (h : Reach a b) : Reach a b.drew := Below.drew h
theorem Reach.drewN {a b : World} (h : Reach a b) (n : Nat) : Reach a (b.drewN n) := by
  have k : Below a.heap.size a b := h
  exact ⟨k.os, k.tape, k.output, k.size, k.block⟩
theorem Reach.grow {a b : World} (h : Reach a b) (d : Nat) (os : Array Obj) : Reach a (Sort.grow (redrawn b d) os) :=
  Reach.trans h (below_regrown b d os)
theorem Reach.setCell {a b : World} (h : Reach a b) {p : Addr} (hp : a.heap.size ≤ p.block) (v : Value) : Reach a (b.setCell p v) := Below.setCell h hp v
theorem Reach.facts {W w1 : World} (hb : Reach W w1) : (∀ b o, b < W.heap.size → w1.cell? ⟨b, o, none⟩ = W.cell? ⟨b, o, none⟩) ∧ (∀ b o, b < W.heap.size → w1.frozen? ⟨b, o, none⟩ = W.frozen? ⟨b, o, none⟩) ∧ (∀ n, n < W.heap.size → n < w1.heap.size) :=
  ⟨fun b o h => Below.cell (p := ⟨b, o, none⟩) hb h, fun b o h => Below.frozen (p := ⟨b, o, none⟩) hb h, fun _ h => Nat.lt_of_lt_of_le h (Below.size hb)⟩
theorem reg_reach {P : Program} {f : FuncId} {args : Array Value} {w : World} {d : Nat} {os : Array Obj} {v : Value}
    (h : Calls P f args (grow (redrawn w d) os) fun e w' => e = .returned v ∧ Reach (grow (redrawn w d) os) w') : Calls P f args (grow (redrawn w d) os) fun e w'' => e = .returned v ∧ ∃ p : Regrown, w'' = grow (redrawn w p.d) p.os :=
  Calls.regrown_of h
theorem reg_pure {P : Program} {f : FuncId} {args : Array Value} {w : World} {d : Nat} {os : Array Obj} {v : Value}
    (h : Calls P f args (grow (redrawn w d) os) fun e w' => e = .returned v ∧ grow (redrawn w d) os = w') : Calls P f args (grow (redrawn w d) os) fun e w'' => e = .returned v ∧ ∃ p : Regrown, w'' = grow (redrawn w p.d) p.os :=
  h.mono fun _ _ ⟨he, hw⟩ => ⟨he, ⟨d, os⟩, hw.symm⟩
theorem cell_grow (w : World) (d : Nat) (os : Array Obj) (b o : Nat) (h : b < w.heap.size) : (grow (redrawn w d) os).cell? ⟨b, o, none⟩ = w.cell? ⟨b, o, none⟩ :=
  (below_regrown w d os).cell (p := ⟨b, o, none⟩) h
theorem frozen_grow (w : World) (d : Nat) (os : Array Obj) (b o : Nat) (h : b < w.heap.size) : (grow (redrawn w d) os).frozen? ⟨b, o, none⟩ = w.frozen? ⟨b, o, none⟩ :=
  (below_regrown w d os).frozen (p := ⟨b, o, none⟩) h
theorem size_grow (w : World) (d : Nat) (os : Array Obj) : (grow (redrawn w d) os).heap.size = w.heap.size + os.size := by simp [grow, redrawn]

theorem get_mk (l : List UInt8) (k : Nat) (h : k < (ByteArray.mk l.toArray).size) : (ByteArray.mk l.toArray)[k]'h = l[k]'(show k < l.length from h) := rfl
theorem mk_append (a b : List UInt8) : (ByteArray.mk a.toArray) ++ (ByteArray.mk b.toArray) = ByteArray.mk (a ++ b).toArray := by
  apply ByteArray.ext
  simp [ByteArray.data_append]
theorem mk_extract (l : List UInt8) (a b : Nat) : (ByteArray.mk l.toArray).extract a b = ByteArray.mk ((l.take b).drop a).toArray := by
  apply ByteArray.ext
  rw [ByteArray.data_extract]
  simp [List.drop_take]
theorem mk_extract0 (l : List UInt8) (b : Nat) : (ByteArray.mk l.toArray).extract 0 b = ByteArray.mk (l.take b).toArray := by
  rw [mk_extract, List.drop_zero]
theorem mk_extract_end (l : List UInt8) (a : Nat) : (ByteArray.mk l.toArray).extract a l.length = ByteArray.mk (l.drop a).toArray := by
  rw [mk_extract, List.take_length]
theorem mk_extract_cons (b : UInt8) (r : List UInt8) : (ByteArray.mk (b :: r).toArray).extract 1 (r.length + 1) = ByteArray.mk r.toArray := by
  rw [show r.length + 1 = (b :: r).length from rfl, mk_extract_end]
  rfl
theorem empty_mk : ByteArray.empty = ByteArray.mk (List.toArray []) := rfl
theorem ret_string {a b : List UInt8} (h : a = b) : Ending.returned (.string ⟨a.toArray⟩) = Ending.returned (.string ⟨b.toArray⟩) := by rw [h]
theorem ret_int {k : IntKind} {a b : Int} (h : a = b) : Ending.returned (.int k a) = Ending.returned (.int k b) := by rw [h]
theorem ret_bool {a b : Bool} (h : a = b) : Ending.returned (.bool a) = Ending.returned (.bool b) := by rw [h]

open Go.RowKit Go.Sort
/-- Block B holds just these cells, and they may be written. -/
def Blk (w : World) (B : Nat) (cs : Array Value) (t : TypeId) : Prop := w.heap[B]? = some (.cells cs t (0, 0))
theorem Blk.lt {w : World} {B : Nat} {cs : Array Value} {t : TypeId} (h : Blk w B cs t) : B < w.heap.size := (Array.getElem?_eq_some_iff.1 h).1
theorem Blk.reach {w w' : World} {B : Nat} {cs : Array Value} {t : TypeId} (h : Blk w B cs t) (hr : Reach w w') : Blk w' B cs t := (Below.block hr B h.lt).trans h
theorem Blk.set {w : World} {B : Nat} {cs : Array Value} {t : TypeId} (h : Blk w B cs t) (p : Addr) (hp : B ≠ p.block) (v : Value) : Blk (w.setCell p v) B cs t := (Below.heap_setCell w p v B hp).trans h
theorem Blk.cell {w : World} {B : Nat} {cs : Array Value} {t : TypeId} (h : Blk w B cs t) (i : Nat) : w.cell? ⟨B, i, none⟩ = cs[i]? := by
  unfold Blk at h
  simp [World.cell?, h]
theorem Blk.frozen {w : World} {B : Nat} {cs : Array Value} {t : TypeId} (h : Blk w B cs t) (i : Nat) : w.frozen? ⟨B, i, none⟩ = false := by
  unfold Blk at h
  simp [World.frozen?, h]
theorem Blk.new (w : World) (cs : Array Value) (t : TypeId) : Blk (w.alloc (.cells cs t)) w.heap.size cs t := by
  unfold Blk
  simp [World.alloc, -World.alloc_eq]
theorem Blk.put {w : World} {B : Nat} {cs : Array Value} {t : TypeId} (h : Blk w B cs t) (i : Nat) (v : Value) : Blk (w.setCell ⟨B, i, none⟩ v) B (cs.setIfInBounds i v) t := by
  obtain ⟨hlt, hk⟩ := Array.getElem?_eq_some_iff.1 h
  show (w.heap.modify B _)[B]? = _
  rw [Array.getElem?_eq_getElem (by rw [Array.size_modify]; exact hlt), Array.getElem_modify_self, hk]
  rfl
theorem Blk.to {w : World} {B : Nat} {cs ds : Array Value} {t : TypeId} (h : Blk w B cs t) (e : cs = ds) : Blk w B ds t := e ▸ h
/-- A struct of two cells. -/
theorem Blk.one {w : World} {B : Nat} {a : Value} {t : TypeId} (h : Blk w B #[a] t) : w.cell? ⟨B, 0, none⟩ = some a ∧ w.frozen? ⟨B, 0, none⟩ = false := ⟨h.cell 0, h.frozen 0⟩
theorem Blk.two {w : World} {B : Nat} {a b : Value} {t : TypeId} (h : Blk w B #[a, b] t) : w.cell? ⟨B, 0, none⟩ = some a ∧ w.cell? ⟨B, 1, none⟩ = some b := ⟨h.cell 0, h.cell 1⟩
theorem Blk.three {w : World} {B : Nat} {a b c : Value} {t : TypeId} (h : Blk w B #[a, b, c] t) : w.cell? ⟨B, 0, none⟩ = some a ∧ w.cell? ⟨B, 1, none⟩ = some b ∧ w.cell? ⟨B, 2, none⟩ = some c := ⟨h.cell 0, h.cell 1, h.cell 2⟩
theorem Blk.four {w : World} {B : Nat} {a b c d : Value} {t : TypeId} (h : Blk w B #[a, b, c, d] t) :
    w.cell? ⟨B, 0, none⟩ = some a ∧ w.cell? ⟨B, 1, none⟩ = some b ∧ w.cell? ⟨B, 2, none⟩ = some c ∧ w.cell? ⟨B, 3, none⟩ = some d := ⟨h.cell 0, h.cell 1, h.cell 2, h.cell 3⟩
theorem Blk.fourf {w : World} {B : Nat} {a b c d : Value} {t : TypeId} (h : Blk w B #[a, b, c, d] t) :
    (w.cell? ⟨B, 0, none⟩ = some a ∧ w.cell? ⟨B, 1, none⟩ = some b ∧ w.cell? ⟨B, 2, none⟩ = some c ∧ w.cell? ⟨B, 3, none⟩ = some d) ∧
    w.frozen? ⟨B, 0, none⟩ = false ∧ w.frozen? ⟨B, 1, none⟩ = false ∧ w.frozen? ⟨B, 2, none⟩ = false ∧ w.frozen? ⟨B, 3, none⟩ = false := ⟨h.four, h.frozen 0, h.frozen 1, h.frozen 2, h.frozen 3⟩
/-- A struct of six cells. -/
theorem Blk.six {w : World} {B : Nat} {a b c d e f : Value} {t : TypeId} (h : Blk w B #[a, b, c, d, e, f] t) :
    w.cell? ⟨B, 0, none⟩ = some a ∧ w.cell? ⟨B, 1, none⟩ = some b ∧ w.cell? ⟨B, 2, none⟩ = some c ∧ w.cell? ⟨B, 3, none⟩ = some d ∧ w.cell? ⟨B, 4, none⟩ = some e ∧ w.cell? ⟨B, 5, none⟩ = some f :=
  ⟨h.cell 0, h.cell 1, h.cell 2, h.cell 3, h.cell 4, h.cell 5⟩
theorem Blk.seven {w : World} {B : Nat} {a b c d e f g : Value} {t : TypeId} (h : Blk w B #[a, b, c, d, e, f, g] t) :
    w.cell? ⟨B, 0, none⟩ = some a ∧ w.cell? ⟨B, 1, none⟩ = some b ∧ w.cell? ⟨B, 2, none⟩ = some c ∧ w.cell? ⟨B, 3, none⟩ = some d ∧ w.cell? ⟨B, 4, none⟩ = some e ∧ w.cell? ⟨B, 5, none⟩ = some f ∧ w.cell? ⟨B, 6, none⟩ = some g :=
  ⟨h.cell 0, h.cell 1, h.cell 2, h.cell 3, h.cell 4, h.cell 5, h.cell 6⟩
theorem Blk.sixf {w : World} {B : Nat} {a b c d e f : Value} {t : TypeId} (h : Blk w B #[a, b, c, d, e, f] t) :
    (w.cell? ⟨B, 0, none⟩ = some a ∧ w.cell? ⟨B, 1, none⟩ = some b ∧ w.cell? ⟨B, 2, none⟩ = some c ∧ w.cell? ⟨B, 3, none⟩ = some d ∧ w.cell? ⟨B, 4, none⟩ = some e ∧ w.cell? ⟨B, 5, none⟩ = some f) ∧
    w.frozen? ⟨B, 0, none⟩ = false ∧ w.frozen? ⟨B, 1, none⟩ = false ∧ w.frozen? ⟨B, 2, none⟩ = false ∧ w.frozen? ⟨B, 3, none⟩ = false ∧ w.frozen? ⟨B, 4, none⟩ = false ∧ w.frozen? ⟨B, 5, none⟩ = false := ⟨h.six, h.frozen 0, h.frozen 1, h.frozen 2, h.frozen 3, h.frozen 4, h.frozen 5⟩
theorem Blk.sevenf {w : World} {B : Nat} {a b c d e f g : Value} {t : TypeId} (h : Blk w B #[a, b, c, d, e, f, g] t) :
    (w.cell? ⟨B, 0, none⟩ = some a ∧ w.cell? ⟨B, 1, none⟩ = some b ∧ w.cell? ⟨B, 2, none⟩ = some c ∧ w.cell? ⟨B, 3, none⟩ = some d ∧ w.cell? ⟨B, 4, none⟩ = some e ∧ w.cell? ⟨B, 5, none⟩ = some f ∧ w.cell? ⟨B, 6, none⟩ = some g) ∧
    w.frozen? ⟨B, 0, none⟩ = false ∧ w.frozen? ⟨B, 1, none⟩ = false ∧ w.frozen? ⟨B, 2, none⟩ = false ∧ w.frozen? ⟨B, 3, none⟩ = false ∧ w.frozen? ⟨B, 4, none⟩ = false ∧ w.frozen? ⟨B, 5, none⟩ = false ∧ w.frozen? ⟨B, 6, none⟩ = false := ⟨h.seven, h.frozen 0, h.frozen 1, h.frozen 2, h.frozen 3, h.frozen 4, h.frozen 5, h.frozen 6⟩
end Go.Proofs.YtbeaheicjopooaaGreatDoor
