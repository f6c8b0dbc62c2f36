/- What every row of this seat shares: what its condition gives the walks, its wrap, its witness. -/
import Derived.Test.YtbeaheicjopooaaGreatDoorRows
import Derived.Test.YtbeaheicjopooaaGreatDoorTie
import Derived.Test.YtbeaheicjopooaaGreatDoorEnv
import Derived.HandedShaped
import Derived.Shelf.Vars
import Derived.ProofKit
import Derived.LaidMore
import Derived.Lay
import Derived.LaidSub
import Derived.OpenShut
import Derived.Stop.Joined
namespace Go.Proofs.YtbeaheicjopooaaGreatDoor
open Go.ChangeShapes Go.WideShapes Go.ChangeAt Go.RowKit
open Go.ChangeMaps (open_string shut_string)
theorem laidOut : laidOutB Tryz.prog = true := by kernel_rfl
theorem own : ownKnob Tryz.prog.godebug = none := by kernel_rfl
theorem gPow : Tryz.prog.globalNamed "internal/strconv.uint64pow10" = some 4 := by kernel_rfl
theorem pow_of_laid {W : World} {l : List (String × DataW Unit)} (h : laidMetH Tryz.prog l W)
    (hl : (l.filter fun x => ["internal/strconv.uint64pow10"].contains x.1) = [("internal/strconv.uint64pow10", Rows.laid_internal_strconv_uint64pow10)]) : Lib.TabIs Tryz.prog W "internal/strconv.uint64pow10" .u64 Lib.pow10Tab := by
  have h1 := laidMetH.filter (fun x => ["internal/strconv.uint64pow10"].contains x.1) h
  rw [hl] at h1
  rw [MakeChecks.laidMetH_plain _ _ _ (by kernel_rfl)] at h1
  exact Lib.tabIs_of_head (t := 148) (e := 131) (n := 20) gPow (by kernel_rfl) (by kernel_rfl) (by kernel_rfl) (by kernel_rfl) (by kernel_rfl) h1
theorem maxl_of {W : World} (h : W.ShapedOpen Tryz.prog) : ∃ m, W.cell? ⟨0, 0, none⟩ = some (.int .i64 m) :=
  cell_of_shapedOpen_int (t := 3) (zero := #[.int .i64 0]) h (by rw [show Tryz.prog.globals.size = NG by kernel_rfl]; decide) (by kernel_rfl) rfl (by kernel_rfl) (by kernel_rfl) (by kernel_rfl)
theorem size_of {W : World} (h : W.ShapedOpen Tryz.prog) : NG ≤ W.heap.size := by
  have hall : ((List.range NG).all fun g => (((begin Tryz.prog (fun _ _ => 0) default).world.heap[g]?).bind Obj.row?).isSome) = true := by kernel_rfl
  have hg : Tryz.prog.globals.size = NG := by kernel_rfl
  have h1 := List.all_eq_true.1 hall (NG - 1) (List.mem_range.2 (by decide))
  obtain ⟨⟨zero, t⟩, hz⟩ := Option.isSome_iff_exists.1 h1
  obtain ⟨cs, hc, _⟩ := h.1 (NG - 1) zero t (by rw [hg]; decide) hz
  have := (Array.getElem?_eq_some_iff.1 hc).1
  simp only [NG] at this ⊢
  omega
theorem env_of {W : World} {l : List (String × DataW Unit)} (h : laidMetH Tryz.prog l W) (hs : W.ShapedOpen Tryz.prog)
    (hl : (l.filter fun x => ["internal/strconv.uint64pow10"].contains x.1) = [("internal/strconv.uint64pow10", Rows.laid_internal_strconv_uint64pow10)]) : Env W :=
  ⟨size_of hs, pow_of_laid h hl, Nat.lt_of_lt_of_le (by decide) (size_of hs), maxl_of hs⟩
/-- THE WRAP: a row that lists variables, the world's shape handed on. -/
theorem ret_of {C : Checked} {H : Type} {enc : TypeId × Value → H} {os : Os} {f : FuncId} {fn : Func} {s : ChangeSpec} {conds : List PathCond} {apart fresh handsOn again : Bool} {l : List (String × DataW Unit)}
    (own : ownKnob C.prog.godebug = none) (started : os.Started) (noInit : C.prog.inits.idxOf? f = none) (hfn : C.prog.funcs[f]? = some fn)
    (witness : ∃ (w : World) (tape : Tape) (i : Input), w.os = os ∧ (w.forCall tape i).Shaped C.prog ∧ i.vars = [] ∧ Input.okWide C.prog (w.forCall tape i) .any w.heap.size f i ∧
      ((s.pre enc C.prog fn conds apart (w.forCall tape i).memory i.args ∧ laidMetH C.prog l (w.forCall tape i).memory) ∧ sizedMet enc C.prog fn (OpenSpec.ofChange s) apart (w.forCall tape i).memory i.args) ∧ ({} : Assume).holds C.prog (lone (Frame.enter C.prog f i.args .normal) [] (w.forCall tape i)))
    (contract : ∀ (W : World) (base : Nat) (args : Array Value) (ds gs : List (DataW H)) (before : List MemPlace),
      (∀ (j : Nat) t v, fn.params[j]? = some t → args[j]? = some v → Value.okWide C.prog W .any base t v) →
      DataW.Whole enc C.prog fn.params.toList s.vars apart W args.toList ds gs before → laidMetH C.prog l W → W.ShapedOpen C.prog →
      Calls C.prog f args W fun e W' => ∃ v, e = .returned v ∧ s.post enc C.prog fn apart fresh handsOn again W args v W') :
    ReturnsInHanded {} C os f .any (fun w args => (s.pre enc C.prog fn conds apart w args ∧ laidMetH C.prog l w) ∧ sizedMet enc C.prog fn (OpenSpec.ofChange s) apart w args) (s.post enc C.prog fn apart fresh handsOn again) := by
  refine returnsInHanded_of_calls own started noInit witness ?_
  intro w tape i _ hsh _ hok hpre _
  obtain ⟨_, _, _, fn', hfn', _, _, _, _, hval⟩ := hok
  have e : fn' = fn := Option.some.inj (hfn'.symm.trans hfn)
  subst e
  obtain ⟨⟨⟨ds, gs, before, hw, _⟩, hx⟩, _⟩ := hpre
  refine (contract (w.forCall tape i) w.heap.size i.args ds gs before hval (DataW.Whole.of_heap (w' := w.forCall tape i) (by rfl) hw) (hx.of_heap (by rfl)) hsh).mono fun e W' ⟨v, he, hp⟩ => ?_
  subst he
  exact ChangeSpec.post_blind hp
/-- What the rows of this seat list. -/
noncomputable def laidL : List (String × DataW Unit) := Rows.matchPartsRow.laid
/-- The world in which the witness stands. -/
noncomputable def doorW (os : Os) : World := World.laidAll Tryz.prog os laidL
theorem doorW_os (os : Os) : (doorW os).os = os := World.laidAll_os _ _ _
set_option maxRecDepth 100000
theorem door_shaped (os : Os) (args : Array Value) : ((doorW os).forCall (fun _ _ => 0) ⟨#[], args, []⟩).Shaped Tryz.prog := World.shaped_of_ZipB (by kernel_rfl) (by kernel_rfl)
theorem door_met (os : Os) (args : Array Value) : laidMetH Tryz.prog laidL ((doorW os).forCall (fun _ _ => 0) ⟨#[], args, []⟩).memory := by
  rw [MakeChecks.laidMetH_plain _ _ _ (by kernel_rfl)]
  exact laidMet_laidAll _ (by kernel_rfl) (by kernel_rfl)
end Go.Proofs.YtbeaheicjopooaaGreatDoor
