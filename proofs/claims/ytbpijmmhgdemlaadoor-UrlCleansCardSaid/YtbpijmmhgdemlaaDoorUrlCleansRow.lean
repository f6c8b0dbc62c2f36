/- The row and the tied card of UrlCleans. -/
import Derived.Test.YtbpijmmhgdemlaaDoorLaid
import Derived.Test.YtbpijmmhgdemlaaDoorFacts
import Derived.Test.YtbpijmmhgdemlaaDoorAgg
import Derived.Test.YtbpijmmhgdemlaaDoorCleans
import Derived.Test.YtbpijmmhgdemlaaDoorCards
import Derived.SevenTiedAt
namespace Go.Proofs.YtbpijmmhgdemlaaDoor
open Go Go.ChangeShapes Go.WideShapes Go.ChangeAt Go.RowKit
open Go.ChangeMaps (open_string shut_string)
set_option maxRecDepth 100000 in
set_option linter.unusedVariables false in
theorem urlCleans_lifted (os : Os) (started : os.Started) (H : Type) (enc : TypeId × Value → H) :
    ReturnsInHanded {} Tryd.checked os 3 .any (fun w args => (Rows.urlCleansSpec.pre enc Tryd.prog Tryd.f3 [] false w args ∧ laidMetH Tryd.prog Rows.urlCleansRow.laid w) ∧ sizedMet enc Tryd.prog Tryd.f3 (OpenSpec.ofChange Rows.urlCleansSpec) false w args)
      (Rows.urlCleansSpec.post enc Tryd.prog Tryd.f3 false true false false) := by
  refine ret_of (C := Tryd.checked) own started (by kernel_rfl) Tryd.func3
    (ChangeSpec.witness_shaped (enc := enc) (C := Tryd.checked) (os := os) (X := fun w _ => laidMetH Tryd.prog Rows.urlCleansRow.laid w) false (doorW os) #[.string ⟨#[]⟩, .string ⟨#[]⟩] 8 (doorW_os os) (door_shaped os _) (by kernel_rfl) (by kernel_rfl) (by kernel_rfl) (door_met os _)) ?_
  intro W base args ds gs before hval0 hW hL hsh
  have hval : ∀ (j : Nat) t v, Tryd.f3.params[j]? = some t → args[j]? = some v → Value.okWide Tryd.prog W .any base t v := hval0
  have hW' := hW
  obtain ⟨p, q, hA0, hV, rfl, hfz, hnd⟩ := hW
  have hA : DataW.TrodAll enc Tryd.prog W 0 (fun _ => true) true Tryd.f3.params.toList args.toList ds p := hA0
  rw [Tryd.params3] at hA hval
  obtain ⟨v0, vs0, d0, ds0, p0, q0, hargs, rfl, rfl, h0, r0⟩ := trodAll_cons hA
  obtain ⟨v1, vs1, d1, ds1, p1, q1, rfl, rfl, rfl, h1, r1⟩ := trodAll_cons r0
  obtain ⟨rfl, rfl, rfl⟩ := trodAll_nil r1
  obtain rfl : args = #[v0, v1] := by cases args; simp_all
  obtain ⟨rfl, rfl⟩ := trodVars_none hV
  have k0 := h0
  obtain ⟨⟨⟨l0⟩⟩, rfl, _, rfl, _⟩ := open_string Tryd.underlying9 (hval 0 9 v0 rfl rfl) h0
  have k1 := h1
  obtain ⟨⟨⟨l1⟩⟩, rfl, _, rfl, _⟩ := open_string Tryd.underlying9 (hval 1 9 v1 rfl rfl) h1
  clear hA0 hval0
  simp only [List.append_nil] at hW'
  refine (cleans_calls l0 l1 W  (env_of hL hsh (by kernel_rfl))).mono fun e W' ⟨he, hb⟩ => ?_
  subst he
  exact ⟨_, rfl, _, _, _, [], [], [], hW', trodAll_mk1 (shut_bool Tryd.underlying4 _), (trodAll_cons_mk (Below.trod laidOut (by kernel_rfl) (of_decide_eq_true (by kernel_rfl)) k0 hb (fun x hx => by cases hx)) (trodAll_cons_mk (Below.trod laidOut (by kernel_rfl) (of_decide_eq_true (by kernel_rfl)) k1 hb (fun x hx => by cases hx)) trodAll_mk0)), rfl, hb.frame _, fun h => by cases h⟩
theorem urlCleans_inPlace : (Rows.urlCleansRow.inPlace == Tryd.prog.inPlace 3) = true := by kernel_rfl
theorem urlCleans_unfollowed : (Rows.urlCleansRow.unfollowed == Tryd.prog.unfollowed 3) = true := by kernel_rfl
theorem urlCleans_recurses : (Rows.urlCleansRow.recurses == Tryd.prog.recurses 3) = true := by kernel_rfl
theorem urlCleans_named : (Rows.urlCleansRow.named == Tryd.prog.varsNamed 3) = true := by kernel_rfl
theorem urlCleans_goes : false = Rows.urlCleansRow.goesBy Tryd.prog := by kernel_rfl
theorem urlCleans_facts : joinedFacts Tryd.prog 3 Tryd.f3 Rows.urlCleansSpec Rows.urlCleansRow = true := by
  refine band (band (band (band (band (band (band (band (band (band (band (band (band (band (band (band (band (band (band (band (band (band (band (band (band (band (band (band (band (band (band ?_ ?_) ?_) ?_) ?_) ?_) ?_) ?_) ?_) ?_) ?_) ?_) ?_) ?_) ?_) ?_) ?_) ?_) ?_) ?_) ?_) ?_) ?_) ?_) ?_) ?_) ?_) ?_) ?_) ?_) ?_) ?_
  · as_aux_lemma => kernel_rfl
  · exact laidOut
  · exact f_mapsRowed
  · as_aux_lemma => kernel_rfl
  · as_aux_lemma => kernel_rfl
  · as_aux_lemma => kernel_rfl
  · as_aux_lemma => kernel_rfl
  · as_aux_lemma => kernel_rfl
  · as_aux_lemma => kernel_rfl
  · exact urlCleans_inPlace
  · exact urlCleans_unfollowed
  · exact urlCleans_recurses
  · exact urlCleans_named
  · as_aux_lemma => kernel_rfl
  · as_aux_lemma => kernel_rfl
  · as_aux_lemma => kernel_rfl
  · as_aux_lemma => kernel_rfl
  · as_aux_lemma => kernel_rfl
  · as_aux_lemma => kernel_rfl
  · as_aux_lemma => kernel_rfl
  · as_aux_lemma => kernel_rfl
  · as_aux_lemma => kernel_rfl
  · as_aux_lemma => kernel_rfl
  · as_aux_lemma => kernel_rfl
  · exact f_stopsHeard
  · exact f_mayEnter
  · exact f_lifted
  · as_aux_lemma => kernel_rfl
  · as_aux_lemma => kernel_rfl
  · as_aux_lemma => kernel_rfl
  · as_aux_lemma => kernel_rfl
  · as_aux_lemma => kernel_rfl
theorem urlCleans_holds : Rows.UrlCleansSaid :=
  OpenClaim.holds_of_wide 3 Tryd.f3 rfl rfl rfl rfl rfl rfl rfl ⟨rfl, rfl, rfl, rfl, rfl⟩ rfl rfl rfl rfl rfl (by kernel_rfl) Tryd.func3 urlCleans_facts
    (of_decide_eq_true (by kernel_rfl)) (by unfold Func.isWrapper; first | (rw [if_pos (by decide +kernel)]; kernel_rfl) | (rw [if_neg (by decide +kernel)]; exact ⟨rfl, rfl⟩))
    (fun os started H enc _ => urlCleans_lifted os started H enc)
/-- THE TIED CARD. -/
theorem urlCleans_card : Rows.UrlCleansCardSaid :=
  Claim7.holds_tied_plain_at .later [] [.data, .data, .data, .data, .sentinel, .sentinel, .pinned] true (true, "10a8ba1cecdd9b61f23e39e7659190d8da0a5c28b617aeb17f67d1f7fe4ecf19") true
    urlCleans_holds (fun _ h => by cases h) (by kernel_rfl) (fun _ h => by cases h) urlCleans_row_tie rfl ⟨rfl, rfl⟩ (by kernel_rfl) rfl
    (fun f fn hf hfn => by
      obtain rfl : f = 3 := Option.some.inj ((show Tryd.prog.funcNamed "pounce/pouncelaw05.UrlCleans" = some 3 by kernel_rfl).symm.trans hf) |>.symm
      obtain rfl : fn = Tryd.f3 := (Option.some.inj (Tryd.func3.symm.trans hfn)).symm
      exact ⟨f_looks, fun j t ht => by
        rw [Tryd.params3] at ht
        have hm : t ∈ [9, 9] := by simpa using Array.mem_of_getElem? ht
        have hall : ([9, 9].all fun u => !Tryd.prog.wantsStandIn u) = true := by as_aux_lemma => kernel_rfl
        exact (show Tryd.prog.wantsStandIn t = false by simpa using List.all_eq_true.1 hall t hm)⟩)
    urlCleans_goes
#print axioms urlCleans_card
end Go.Proofs.YtbpijmmhgdemlaaDoor
