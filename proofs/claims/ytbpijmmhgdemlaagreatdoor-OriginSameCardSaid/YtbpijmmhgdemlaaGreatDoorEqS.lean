/- Two origins compared: one bool; no condition. -/
import Derived.Test.YtbpijmmhgdemlaaGreatDoorProg
import Derived.Test.YtbpijmmhgdemlaaGreatDoorPureJ
import Derived.Test.YtbpijmmhgdemlaaGreatDoorBase
import Derived.Test.YtbpijmmhgdemlaaGreatDoorEqU
namespace Go.Proofs.YtbpijmmhgdemlaaGreatDoor
open Go.RowKit Go.Sort
attribute [local go_sem] get_mk mk_append mk_extract0 mk_extract_end mk_extract_cons empty_mk cell_grow frozen_grow size_grow
theorem orgEq_ne (a b : Org) (h : a ≠ b) : orgEq a b = false := by
  cases e : orgEq a b
  · rfl
  · exact absurd ((orgEq_iff a b).1 e) h
set_option maxHeartbeats 1000000 in
theorem run_eql_org (x0 : Bool) (x1 : List UInt8) (x2 : List UInt8) (x3 : Int) (y0 : Bool) (y1 : List UInt8) (y2 : List UInt8) (y3 : Int) (w : World) :
    (binOp BinOp.eql 34 (.agg #[.bool x0, .string ⟨x1.toArray⟩, .string ⟨x2.toArray⟩, .int .i64 x3]) (.agg #[.bool y0, .string ⟨y1.toArray⟩, .string ⟨y2.toArray⟩, .int .i64 y3])).run Tryz.prog w = .ok (.bool (orgEq ⟨x0, x1, x2, x3⟩ ⟨y0, y1, y2, y3⟩)) w := by
  go_simp
  unfold orgEq
  repeat' split
  all_goals simp_all
set_option maxHeartbeats 1000000 in
theorem run_neq_org (x0 : Bool) (x1 : List UInt8) (x2 : List UInt8) (x3 : Int) (y0 : Bool) (y1 : List UInt8) (y2 : List UInt8) (y3 : Int) (w : World) :
    (binOp BinOp.neq 34 (.agg #[.bool x0, .string ⟨x1.toArray⟩, .string ⟨x2.toArray⟩, .int .i64 x3]) (.agg #[.bool y0, .string ⟨y1.toArray⟩, .string ⟨y2.toArray⟩, .int .i64 y3])).run Tryz.prog w = .ok (.bool (!orgEq ⟨x0, x1, x2, x3⟩ ⟨y0, y1, y2, y3⟩)) w := by
  go_simp
  unfold orgEq
  repeat' split
  all_goals simp_all
end Go.Proofs.YtbpijmmhgdemlaaGreatDoor
