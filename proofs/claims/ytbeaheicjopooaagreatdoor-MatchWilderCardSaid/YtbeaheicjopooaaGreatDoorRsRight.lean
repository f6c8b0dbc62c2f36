/- The law ResolveRight, walked. -/
import Derived.Test.YtbeaheicjopooaaGreatDoorProg
import Derived.Test.YtbeaheicjopooaaGreatDoorJoins
import Derived.Test.YtbeaheicjopooaaGreatDoorPureG
import Derived.Test.YtbeaheicjopooaaGreatDoorBig
import Derived.Test.YtbeaheicjopooaaGreatDoorEqU
namespace Go.Proofs.YtbeaheicjopooaaGreatDoor
open Go.RowKit Go.Sort
attribute [local go_sem] get_mk mk_append mk_extract0 mk_extract_end mk_extract_cons empty_mk cell_grow frozen_grow size_grow
attribute [local go_sem ↓] run_eql_url run_neq_url
theorem bigN {a b c d : List UInt8} (h : bigB a b c d = false) : a.length ≤ 2000 ∧ b.length ≤ 2000 ∧ c.length ≤ 2000 ∧ d.length ≤ 2000 := by
  simp [bigB] at h
  omega
end Go.Proofs.YtbeaheicjopooaaGreatDoor
