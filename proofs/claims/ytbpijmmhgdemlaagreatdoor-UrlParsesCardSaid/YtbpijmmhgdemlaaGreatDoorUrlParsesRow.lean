/- The row and the tied card of UrlParses. -/
import Derived.Test.YtbpijmmhgdemlaaGreatDoorLaid
import Derived.Test.YtbpijmmhgdemlaaGreatDoorFacts
import Derived.Test.YtbpijmmhgdemlaaGreatDoorAgg
import Derived.Test.YtbpijmmhgdemlaaGreatDoorUParses
import Derived.Test.YtbpijmmhgdemlaaGreatDoorCards
import Derived.SevenTiedAt
namespace Go.Proofs.YtbpijmmhgdemlaaGreatDoor
open Go Go.ChangeShapes Go.WideShapes Go.ChangeAt Go.RowKit
open Go.ChangeMaps (open_string shut_string)
set_option maxRecDepth 100000 in
set_option linter.unusedVariables false in
theorem urlParses_lifted (os : Os) (started : os.Started) (H : Type) (enc : TypeId × Value → H) :
    ReturnsInHanded {} Tryz.checked os 3 .any (fun w args => (Rows.urlParsesSpec.pre enc Tryz.prog Tryz.f3 [] false w args ∧ laidMetH Tryz.prog Rows.urlParsesRow.laid w) ∧ sizedMet enc Tryz.prog Tryz.f3 (OpenSpec.ofChange Rows.urlParsesSpec) false w args)
      (Rows.urlParsesSpec.post enc Tryz.prog Tryz.f3 false true false false) := by
  refine ret_of (C := Tryz.checked) own started (by kernel_rfl) Tryz.func3
    (ChangeSpec.witness_shaped (enc := enc) (C := Tryz.checked) (os := os) (X := fun w _ => laidMetH Tryz.prog Rows.urlParsesRow.laid w) false (doorW os) #[.string ⟨#[]⟩] 8 (doorW_os os) (door_shaped os _) (by kernel_rfl) (by kernel_rfl) (by kernel_rfl) (door_met os _)) ?_
  intro W base args ds gs before hval0 hW hL hsh
  have hval : ∀ (j : Nat) t v, Tryz.f3.params[j]? = some t → args[j]? = some v → Value.okWide Tryz.prog W .any base t v := hval0
  have hW' := hW
  obtain ⟨p, q, hA0, hV, rfl, hfz, hnd⟩ := hW
  have hA : DataW.TrodAll enc Tryz.prog W 0 (fun _ => true) true Tryz.f3.params.toList args.toList ds p := hA0
  rw [Tryz.params3] at hA hval
  obtain ⟨v0, vs0, d0, ds0, p0, q0, hargs, rfl, rfl, h0, r0⟩ := trodAll_cons hA
  obtain ⟨rfl, rfl, rfl⟩ := trodAll_nil r0
  obtain rfl : args = #[v0] := by cases args; simp_all
  obtain ⟨rfl, rfl⟩ := trodVars_none hV
  have k0 := h0
  obtain ⟨⟨⟨l0⟩⟩, rfl, _, rfl, _⟩ := open_string Tryz.underlying9 (hval 0 9 v0 rfl rfl) h0
  clear hA0 hval0
  simp only [List.append_nil] at hW'
  refine (uparses_calls l0 W  (env_of hL hsh (by kernel_rfl))).mono fun e W' ⟨he, hb⟩ => ?_
  subst he
  exact ⟨_, rfl, _, _, _, [], [], [], hW', trodAll_mk1 (shut_bool Tryz.underlying4 _), (trodAll_cons_mk (Below.trod laidOut (by kernel_rfl) (of_decide_eq_true (by kernel_rfl)) k0 hb (fun x hx => by cases hx)) trodAll_mk0), rfl, hb.frame _, fun h => by cases h⟩
theorem urlParses_inPlace : (Rows.urlParsesRow.inPlace == Tryz.prog.inPlace 3) = true := by kernel_rfl
theorem urlParses_unfollowed : (Rows.urlParsesRow.unfollowed == Tryz.prog.unfollowed 3) = true := by kernel_rfl
theorem urlParses_recurses : (Rows.urlParsesRow.recurses == Tryz.prog.recurses 3) = true := by kernel_rfl
theorem urlParses_named : (Rows.urlParsesRow.named == Tryz.prog.varsNamed 3) = true := by kernel_rfl
theorem urlParses_goes : false = Rows.urlParsesRow.goesBy Tryz.prog := by kernel_rfl
theorem urlParses_facts : joinedFacts Tryz.prog 3 Tryz.f3 Rows.urlParsesSpec Rows.urlParsesRow = true := by
  refine band (band (band (band (band (band (band (band (band (band (band (band (band (band (band (band (band (band (band (band (band (band (band (band (band (band (band (band (band (band (band ?_ ?_) ?_) ?_) ?_) ?_) ?_) ?_) ?_) ?_) ?_) ?_) ?_) ?_) ?_) ?_) ?_) ?_) ?_) ?_) ?_) ?_) ?_) ?_) ?_) ?_) ?_) ?_) ?_) ?_) ?_) ?_
  · as_aux_lemma => kernel_rfl
  · exact laidOut
  · exact f_mapsRowed
  · as_aux_lemma => kernel_rfl
  · as_aux_lemma => kernel_rfl
  · as_aux_lemma => kernel_rfl
  · as_aux_lemma => kernel_rfl
  · as_aux_lemma => kernel_rfl
  · as_aux_lemma => kernel_rfl
  · exact urlParses_inPlace
  · exact urlParses_unfollowed
  · exact urlParses_recurses
  · exact urlParses_named
  · as_aux_lemma => kernel_rfl
  · as_aux_lemma => kernel_rfl
  · as_aux_lemma => kernel_rfl
  · as_aux_lemma => kernel_rfl
  · as_aux_lemma => kernel_rfl
  · as_aux_lemma => kernel_rfl
  · as_aux_lemma => kernel_rfl
  · as_aux_lemma => kernel_rfl
  · as_aux_lemma => kernel_rfl
  · as_aux_lemma => kernel_rfl
  · as_aux_lemma => kernel_rfl
  · exact f_stopsHeard
  · exact f_mayEnter
  · exact f_lifted
  · as_aux_lemma => kernel_rfl
  · as_aux_lemma => kernel_rfl
  · as_aux_lemma => kernel_rfl
  · as_aux_lemma => kernel_rfl
  · as_aux_lemma => kernel_rfl
theorem urlParses_holds : Rows.UrlParsesSaid :=
  OpenClaim.holds_of_wide 3 Tryz.f3 rfl rfl rfl rfl rfl rfl rfl ⟨rfl, rfl, rfl, rfl, rfl⟩ rfl rfl rfl rfl rfl (by kernel_rfl) Tryz.func3 urlParses_facts
    (of_decide_eq_true (by kernel_rfl)) (by unfold Func.isWrapper; first | (rw [if_pos (by decide +kernel)]; kernel_rfl) | (rw [if_neg (by decide +kernel)]; exact ⟨rfl, rfl⟩))
    (fun os started H enc _ => urlParses_lifted os started H enc)
/-- THE TIED CARD. -/
theorem urlParses_card : Rows.UrlParsesCardSaid :=
  Claim7.holds_tied_plain_at .later [] [.data, .data, .data, .data, .sentinel, .sentinel, .pinned] true (true, "3714bfe6ef412317b86ccd5377e1dce2629e73ccd139a91acd375e25a8c549ae") true
    urlParses_holds (fun _ h => by cases h) (by kernel_rfl) (fun _ h => by cases h) urlParses_row_tie rfl ⟨rfl, rfl⟩ (by kernel_rfl) rfl
    (fun f fn hf hfn => by
      obtain rfl : f = 3 := Option.some.inj ((show Tryz.prog.funcNamed "pounce/pouncelaw05.UrlParses" = some 3 by kernel_rfl).symm.trans hf) |>.symm
      obtain rfl : fn = Tryz.f3 := (Option.some.inj (Tryz.func3.symm.trans hfn)).symm
      exact ⟨f_looks, fun j t ht => by
        rw [Tryz.params3] at ht
        have hm : t ∈ [9] := by simpa using Array.mem_of_getElem? ht
        have hall : ([9].all fun u => !Tryz.prog.wantsStandIn u) = true := by as_aux_lemma => kernel_rfl
        exact (show Tryz.prog.wantsStandIn t = false by simpa using List.all_eq_true.1 hall t hm)⟩)
    urlParses_goes
#print axioms urlParses_card
end Go.Proofs.YtbpijmmhgdemlaaGreatDoor
