/- The row and the tied card of OriginSame. -/
import Derived.Test.YtbpijmmhgdemlaaGreatDoorLaid
import Derived.Test.YtbpijmmhgdemlaaGreatDoorFacts
import Derived.Test.YtbpijmmhgdemlaaGreatDoorAgg
import Derived.Test.YtbpijmmhgdemlaaGreatDoorAgg4
import Derived.Test.YtbpijmmhgdemlaaGreatDoorOrigSame
import Derived.Test.YtbpijmmhgdemlaaGreatDoorCards
import Derived.SevenTiedAt
namespace Go.Proofs.YtbpijmmhgdemlaaGreatDoor
open Go Go.ChangeShapes Go.WideShapes Go.ChangeAt Go.RowKit
open Go.ChangeMaps (open_string shut_string)
set_option maxRecDepth 100000 in
set_option linter.unusedVariables false in
theorem originSame_lifted (os : Os) (started : os.Started) (H : Type) (enc : TypeId × Value → H) :
    ReturnsInHanded {} Tryz.checked os 6 .any (fun w args => (Rows.originSameSpec.pre enc Tryz.prog Tryz.f6 [] false w args ∧ laidMetH Tryz.prog Rows.originSameRow.laid w) ∧ sizedMet enc Tryz.prog Tryz.f6 (OpenSpec.ofChange Rows.originSameSpec) false w args)
      (Rows.originSameSpec.post enc Tryz.prog Tryz.f6 false true false false) := by
  refine ret_of (C := Tryz.checked) own started (by kernel_rfl) Tryz.func6
    (ChangeSpec.witness_shaped (enc := enc) (C := Tryz.checked) (os := os) (X := fun w _ => laidMetH Tryz.prog Rows.originSameRow.laid w) false (doorW os) #[.agg #[.bool false, .string ⟨#[]⟩, .string ⟨#[]⟩, .int .i64 0], .agg #[.bool false, .string ⟨#[]⟩, .string ⟨#[]⟩, .int .i64 0]] 8 (doorW_os os) (door_shaped os _) (by kernel_rfl) (by kernel_rfl) (by kernel_rfl) (door_met os _)) ?_
  intro W base args ds gs before hval0 hW hL hsh
  have hval : ∀ (j : Nat) t v, Tryz.f6.params[j]? = some t → args[j]? = some v → Value.okWide Tryz.prog W .any base t v := hval0
  have hW' := hW
  obtain ⟨p, q, hA0, hV, rfl, hfz, hnd⟩ := hW
  have hA : DataW.TrodAll enc Tryz.prog W 0 (fun _ => true) true Tryz.f6.params.toList args.toList ds p := hA0
  rw [Tryz.params6] at hA hval
  obtain ⟨v0, vs0, d0, ds0, p0, q0, hargs, rfl, rfl, h0, r0⟩ := trodAll_cons hA
  obtain ⟨v1, vs1, d1, ds1, p1, q1, rfl, rfl, rfl, h1, r1⟩ := trodAll_cons r0
  obtain ⟨rfl, rfl, rfl⟩ := trodAll_nil r1
  obtain rfl : args = #[v0, v1] := by cases args; simp_all
  obtain ⟨rfl, rfl⟩ := trodVars_none hV
  have k0 := h0
  obtain ⟨o0, a0, b0, n0, rfl, rfl, w0, u0⟩ := open_org (hval 0 34 v0 rfl rfl) h0
  have k1 := h1
  obtain ⟨o1, a1, b1, n1, rfl, rfl, w1, u1⟩ := open_org (hval 1 34 v1 rfl rfl) h1
  clear hA0 hval0
  simp only [List.append_nil] at hW'
  refine (originsame_calls o0 a0 b0 n0 o1 a1 b1 n1 W w0 u0 w1 u1 (env_of hL hsh (by kernel_rfl))).mono fun e W' ⟨he, hb⟩ => ?_
  subst he
  exact ⟨_, rfl, _, _, _, [], [], [], hW', trodAll_mk1 (shut_bool Tryz.underlying4 _), (trodAll_cons_mk (Below.trod laidOut (by kernel_rfl) (of_decide_eq_true (by kernel_rfl)) k0 hb (fun x hx => by cases hx)) (trodAll_cons_mk (Below.trod laidOut (by kernel_rfl) (of_decide_eq_true (by kernel_rfl)) k1 hb (fun x hx => by cases hx)) trodAll_mk0)), rfl, hb.frame _, fun h => by cases h⟩
theorem originSame_inPlace : (Rows.originSameRow.inPlace == Tryz.prog.inPlace 6) = true := by kernel_rfl
theorem originSame_unfollowed : (Rows.originSameRow.unfollowed == Tryz.prog.unfollowed 6) = true := by kernel_rfl
theorem originSame_recurses : (Rows.originSameRow.recurses == Tryz.prog.recurses 6) = true := by kernel_rfl
theorem originSame_named : (Rows.originSameRow.named == Tryz.prog.varsNamed 6) = true := by kernel_rfl
theorem originSame_goes : false = Rows.originSameRow.goesBy Tryz.prog := by kernel_rfl
theorem originSame_facts : joinedFacts Tryz.prog 6 Tryz.f6 Rows.originSameSpec Rows.originSameRow = true := by
  refine band (band (band (band (band (band (band (band (band (band (band (band (band (band (band (band (band (band (band (band (band (band (band (band (band (band (band (band (band (band (band ?_ ?_) ?_) ?_) ?_) ?_) ?_) ?_) ?_) ?_) ?_) ?_) ?_) ?_) ?_) ?_) ?_) ?_) ?_) ?_) ?_) ?_) ?_) ?_) ?_) ?_) ?_) ?_) ?_) ?_) ?_) ?_
  · as_aux_lemma => kernel_rfl
  · exact laidOut
  · exact f_mapsRowed
  · as_aux_lemma => kernel_rfl
  · as_aux_lemma => kernel_rfl
  · as_aux_lemma => kernel_rfl
  · as_aux_lemma => kernel_rfl
  · as_aux_lemma => kernel_rfl
  · as_aux_lemma => kernel_rfl
  · exact originSame_inPlace
  · exact originSame_unfollowed
  · exact originSame_recurses
  · exact originSame_named
  · as_aux_lemma => kernel_rfl
  · as_aux_lemma => kernel_rfl
  · as_aux_lemma => kernel_rfl
  · as_aux_lemma => kernel_rfl
  · as_aux_lemma => kernel_rfl
  · as_aux_lemma => kernel_rfl
  · as_aux_lemma => kernel_rfl
  · as_aux_lemma => kernel_rfl
  · as_aux_lemma => kernel_rfl
  · as_aux_lemma => kernel_rfl
  · as_aux_lemma => kernel_rfl
  · exact f_stopsHeard
  · exact f_mayEnter
  · exact f_lifted
  · as_aux_lemma => kernel_rfl
  · as_aux_lemma => kernel_rfl
  · as_aux_lemma => kernel_rfl
  · as_aux_lemma => kernel_rfl
  · as_aux_lemma => kernel_rfl
theorem originSame_holds : Rows.OriginSameSaid :=
  OpenClaim.holds_of_wide 6 Tryz.f6 rfl rfl rfl rfl rfl rfl rfl ⟨rfl, rfl, rfl, rfl, rfl⟩ rfl rfl rfl rfl rfl (by kernel_rfl) Tryz.func6 originSame_facts
    (of_decide_eq_true (by kernel_rfl)) (by unfold Func.isWrapper; first | (rw [if_pos (by decide +kernel)]; kernel_rfl) | (rw [if_neg (by decide +kernel)]; exact ⟨rfl, rfl⟩))
    (fun os started H enc _ => originSame_lifted os started H enc)
/-- THE TIED CARD. -/
theorem originSame_card : Rows.OriginSameCardSaid :=
  Claim7.holds_tied_plain_at .later [] [.data, .data, .data, .data, .sentinel, .sentinel, .pinned] true (true, "3714bfe6ef412317b86ccd5377e1dce2629e73ccd139a91acd375e25a8c549ae") true
    originSame_holds (fun _ h => by cases h) (by kernel_rfl) (fun _ h => by cases h) originSame_row_tie rfl ⟨rfl, rfl⟩ (by kernel_rfl) rfl
    (fun f fn hf hfn => by
      obtain rfl : f = 6 := Option.some.inj ((show Tryz.prog.funcNamed "pounce/pouncelaw07.OriginSame" = some 6 by kernel_rfl).symm.trans hf) |>.symm
      obtain rfl : fn = Tryz.f6 := (Option.some.inj (Tryz.func6.symm.trans hfn)).symm
      exact ⟨f_looks, fun j t ht => by
        rw [Tryz.params6] at ht
        have hm : t ∈ [34, 34] := by simpa using Array.mem_of_getElem? ht
        have hall : ([34, 34].all fun u => !Tryz.prog.wantsStandIn u) = true := by as_aux_lemma => kernel_rfl
        exact (show Tryz.prog.wantsStandIn t = false by simpa using List.all_eq_true.1 hall t hm)⟩)
    originSame_goes
#print axioms originSame_card
end Go.Proofs.YtbpijmmhgdemlaaGreatDoor
