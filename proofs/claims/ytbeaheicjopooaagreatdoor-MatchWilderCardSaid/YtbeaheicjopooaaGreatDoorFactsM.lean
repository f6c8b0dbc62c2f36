/- Closed facts on the translation that the rows of this seat share, each alone. -/
import Derived.Test.YtbeaheicjopooaaGreatDoorRows
import Derived.Test.YtbeaheicjopooaaGreatDoorTie
import Derived.Test.YtbeaheicjopooaaGreatDoorLaidM
namespace Go.Proofs.YtbeaheicjopooaaGreatDoor
open Go Go.ChangeShapes Go.WideShapes Go.ChangeAt Go.RowKit
theorem band {a b : Bool} (ha : a = true) (hb : b = true) : (a && b) = true := by rw [ha, hb]; rfl
theorem f_mapsRowed : mapsRowed Tryz.prog = true := by kernel_rfl
theorem f_stopsHeard : Tryz.prog.stopsHeard = true := by kernel_rfl
theorem f_mayEnter : Tryz.prog.mayEnter = true := by kernel_rfl
theorem f_lifted : (Rows.resolveJoinsRow.lifted == Tryz.prog.liftsFinal) = true := by kernel_rfl
theorem f_looks : true = Tryz.prog.looks [] := by kernel_rfl
end Go.Proofs.YtbeaheicjopooaaGreatDoor
