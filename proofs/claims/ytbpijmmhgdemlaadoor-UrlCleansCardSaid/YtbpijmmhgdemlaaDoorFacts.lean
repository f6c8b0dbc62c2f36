/- Closed facts on the translation that the rows of this seat share, each alone. -/
import Derived.Test.YtbpijmmhgdemlaaDoorRows
import Derived.Test.YtbpijmmhgdemlaaDoorTie
import Derived.Test.YtbpijmmhgdemlaaDoorLaid
namespace Go.Proofs.YtbpijmmhgdemlaaDoor
open Go Go.ChangeShapes Go.WideShapes Go.ChangeAt Go.RowKit
theorem band {a b : Bool} (ha : a = true) (hb : b = true) : (a && b) = true := by rw [ha, hb]; rfl
theorem f_mapsRowed : mapsRowed Tryd.prog = true := by kernel_rfl
theorem f_stopsHeard : Tryd.prog.stopsHeard = true := by kernel_rfl
theorem f_mayEnter : Tryd.prog.mayEnter = true := by kernel_rfl
theorem f_lifted : (Rows.urlCleansRow.lifted == Tryd.prog.liftsFinal) = true := by kernel_rfl
theorem f_looks : true = Tryd.prog.looks [] := by kernel_rfl
end Go.Proofs.YtbpijmmhgdemlaaDoor
