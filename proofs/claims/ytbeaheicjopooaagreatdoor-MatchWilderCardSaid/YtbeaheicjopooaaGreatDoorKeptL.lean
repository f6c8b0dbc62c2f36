/- The kept words lie, by what the rows list. -/
import Derived.Test.YtbeaheicjopooaaGreatDoorProg
import Derived.Test.YtbeaheicjopooaaGreatDoorLaidM
import Derived.Test.YtbeaheicjopooaaGreatDoorSrc
namespace Go.Proofs.YtbeaheicjopooaaGreatDoor
open Go.ChangeShapes Go.WideShapes Go.ChangeAt Go.RowKit
theorem kept_of {W : World} {l : List (String × DataW Unit)} (h : laidMetH Tryz.prog l W) (hs : W.ShapedOpen Tryz.prog)
    (hl : (l.filter fun x => ["pounce/source.kept"].contains x.1) = [("pounce/source.kept", Rows.laid_pounce_source_kept)]) : KeptIs W := by
  have h1 := laidMetH.filter (fun x => ["pounce/source.kept"].contains x.1) h
  rw [hl] at h1
  rw [MakeChecks.laidMetH_plain _ _ _ (by kernel_rfl)] at h1
  exact keptIs_of_head (size_of hs) h1
end Go.Proofs.YtbeaheicjopooaaGreatDoor
