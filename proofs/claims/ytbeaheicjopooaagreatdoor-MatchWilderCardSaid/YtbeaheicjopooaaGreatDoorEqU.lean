/- Two addresses compared: one bool; no condition. -/
import Derived.Test.YtbeaheicjopooaaGreatDoorProg
import Derived.Test.YtbeaheicjopooaaGreatDoorPure
import Derived.Test.YtbeaheicjopooaaGreatDoorBase
import Derived.Test.YtbeaheicjopooaaGreatDoorPureG
namespace Go.Proofs.YtbeaheicjopooaaGreatDoor
open Go.RowKit Go.Sort
attribute [local go_sem] get_mk mk_append mk_extract0 mk_extract_end mk_extract_cons empty_mk cell_grow frozen_grow size_grow
/-- Two addresses compared, field by field. -/
def urlEq (a b : URL) : Bool := a.opq == b.opq && a.sch == b.sch && a.host == b.host && a.port == b.port && a.path == b.path && a.query == b.query
theorem urlEq_iff (a b : URL) : urlEq a b = true ↔ a = b := by
  cases a
  cases b
  simp [urlEq, and_assoc]
theorem urlEq_self (a : URL) : urlEq a a = true := (urlEq_iff a a).2 rfl
theorem urlEq_ne (a b : URL) (h : a ≠ b) : urlEq a b = false := by
  cases e : urlEq a b
  · rfl
  · exact absurd ((urlEq_iff a b).1 e) h
set_option maxHeartbeats 1000000 in
theorem run_eql_url (x0 : Bool) (x1 : List UInt8) (x2 : List UInt8) (x3 : Int) (x4 : List UInt8) (x5 : List UInt8) (y0 : Bool) (y1 : List UInt8) (y2 : List UInt8) (y3 : Int) (y4 : List UInt8) (y5 : List UInt8) (w : World) :
    (binOp BinOp.eql 23 (.agg #[.bool x0, .string ⟨x1.toArray⟩, .string ⟨x2.toArray⟩, .int .i64 x3, .string ⟨x4.toArray⟩, .string ⟨x5.toArray⟩]) (.agg #[.bool y0, .string ⟨y1.toArray⟩, .string ⟨y2.toArray⟩, .int .i64 y3, .string ⟨y4.toArray⟩, .string ⟨y5.toArray⟩])).run Tryz.prog w = .ok (.bool (urlEq ⟨x0, x1, x2, x3, x4, x5⟩ ⟨y0, y1, y2, y3, y4, y5⟩)) w := by
  go_simp
  unfold urlEq
  repeat' split
  all_goals simp_all
set_option maxHeartbeats 1000000 in
theorem run_neq_url (x0 : Bool) (x1 : List UInt8) (x2 : List UInt8) (x3 : Int) (x4 : List UInt8) (x5 : List UInt8) (y0 : Bool) (y1 : List UInt8) (y2 : List UInt8) (y3 : Int) (y4 : List UInt8) (y5 : List UInt8) (w : World) :
    (binOp BinOp.neq 23 (.agg #[.bool x0, .string ⟨x1.toArray⟩, .string ⟨x2.toArray⟩, .int .i64 x3, .string ⟨x4.toArray⟩, .string ⟨x5.toArray⟩]) (.agg #[.bool y0, .string ⟨y1.toArray⟩, .string ⟨y2.toArray⟩, .int .i64 y3, .string ⟨y4.toArray⟩, .string ⟨y5.toArray⟩])).run Tryz.prog w = .ok (.bool (!urlEq ⟨x0, x1, x2, x3, x4, x5⟩ ⟨y0, y1, y2, y3, y4, y5⟩)) w := by
  go_simp
  unfold urlEq
  repeat' split
  all_goals simp_all

open Go.RowKit Go.Sort
attribute [local go_sem] get_mk mk_append mk_extract0 mk_extract_end mk_extract_cons empty_mk cell_grow frozen_grow size_grow
theorem orgEq_ne (a b : Org) (h : a ≠ b) : orgEq a b = false := by
  cases e : orgEq a b
  · rfl
  · exact absurd ((orgEq_iff a b).1 e) h
set_option maxHeartbeats 1000000 in
theorem run_eql_org (x0 : Bool) (x1 : List UInt8) (x2 : List UInt8) (x3 : Int) (y0 : Bool) (y1 : List UInt8) (y2 : List UInt8) (y3 : Int) (w : World) :
    (binOp BinOp.eql 45 (.agg #[.bool x0, .string ⟨x1.toArray⟩, .string ⟨x2.toArray⟩, .int .i64 x3]) (.agg #[.bool y0, .string ⟨y1.toArray⟩, .string ⟨y2.toArray⟩, .int .i64 y3])).run Tryz.prog w = .ok (.bool (orgEq ⟨x0, x1, x2, x3⟩ ⟨y0, y1, y2, y3⟩)) w := by
  go_simp
  unfold orgEq
  repeat' split
  all_goals simp_all
set_option maxHeartbeats 1000000 in
theorem run_neq_org (x0 : Bool) (x1 : List UInt8) (x2 : List UInt8) (x3 : Int) (y0 : Bool) (y1 : List UInt8) (y2 : List UInt8) (y3 : Int) (w : World) :
    (binOp BinOp.neq 45 (.agg #[.bool x0, .string ⟨x1.toArray⟩, .string ⟨x2.toArray⟩, .int .i64 x3]) (.agg #[.bool y0, .string ⟨y1.toArray⟩, .string ⟨y2.toArray⟩, .int .i64 y3])).run Tryz.prog w = .ok (.bool (!orgEq ⟨x0, x1, x2, x3⟩ ⟨y0, y1, y2, y3⟩)) w := by
  go_simp
  unfold orgEq
  repeat' split
  all_goals simp_all

open Go.RowKit Go.Sort
attribute [local go_sem] get_mk mk_append mk_extract0 mk_extract_end mk_extract_cons empty_mk cell_grow frozen_grow size_grow
/-- Two sources compared, field by field. -/
def srcEq (a b : Src) : Bool := a.kind == b.kind && a.text == b.text && a.sch == b.sch && a.host == b.host && a.wild == b.wild && a.port == b.port && a.path == b.path
theorem srcEq_iff (a b : Src) : srcEq a b = true ↔ a = b := by
  cases a
  cases b
  simp [srcEq, and_assoc]
theorem srcEq_self (a : Src) : srcEq a a = true := (srcEq_iff a a).2 rfl
theorem srcEq_ne (a b : Src) (h : a ≠ b) : srcEq a b = false := by
  cases e : srcEq a b
  · rfl
  · exact absurd ((srcEq_iff a b).1 e) h
set_option maxHeartbeats 1000000 in
theorem run_eql_src (x0 : Int) (x1 : List UInt8) (x2 : List UInt8) (x3 : List UInt8) (x4 : Bool) (x5 : Int) (x6 : List UInt8) (y0 : Int) (y1 : List UInt8) (y2 : List UInt8) (y3 : List UInt8) (y4 : Bool) (y5 : Int) (y6 : List UInt8) (w : World) :
    (binOp BinOp.eql 33 (.agg #[.int .i64 x0, .string ⟨x1.toArray⟩, .string ⟨x2.toArray⟩, .string ⟨x3.toArray⟩, .bool x4, .int .i64 x5, .string ⟨x6.toArray⟩]) (.agg #[.int .i64 y0, .string ⟨y1.toArray⟩, .string ⟨y2.toArray⟩, .string ⟨y3.toArray⟩, .bool y4, .int .i64 y5, .string ⟨y6.toArray⟩])).run Tryz.prog w = .ok (.bool (srcEq ⟨x0, x1, x2, x3, x4, x5, x6⟩ ⟨y0, y1, y2, y3, y4, y5, y6⟩)) w := by
  go_simp
  unfold srcEq
  repeat' split
  all_goals simp_all
set_option maxHeartbeats 1000000 in
theorem run_neq_src (x0 : Int) (x1 : List UInt8) (x2 : List UInt8) (x3 : List UInt8) (x4 : Bool) (x5 : Int) (x6 : List UInt8) (y0 : Int) (y1 : List UInt8) (y2 : List UInt8) (y3 : List UInt8) (y4 : Bool) (y5 : Int) (y6 : List UInt8) (w : World) :
    (binOp BinOp.neq 33 (.agg #[.int .i64 x0, .string ⟨x1.toArray⟩, .string ⟨x2.toArray⟩, .string ⟨x3.toArray⟩, .bool x4, .int .i64 x5, .string ⟨x6.toArray⟩]) (.agg #[.int .i64 y0, .string ⟨y1.toArray⟩, .string ⟨y2.toArray⟩, .string ⟨y3.toArray⟩, .bool y4, .int .i64 y5, .string ⟨y6.toArray⟩])).run Tryz.prog w = .ok (.bool (!srcEq ⟨x0, x1, x2, x3, x4, x5, x6⟩ ⟨y0, y1, y2, y3, y4, y5, y6⟩)) w := by
  go_simp
  unfold srcEq
  repeat' split
  all_goals simp_all
end Go.Proofs.YtbeaheicjopooaaGreatDoor
