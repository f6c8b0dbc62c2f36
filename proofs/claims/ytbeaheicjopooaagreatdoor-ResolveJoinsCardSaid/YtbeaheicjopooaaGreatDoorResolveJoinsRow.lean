/- The row and the tied card of ResolveJoins. -/
import Derived.Test.YtbeaheicjopooaaGreatDoorLaid
import Derived.Test.YtbeaheicjopooaaGreatDoorFacts
import Derived.Test.YtbeaheicjopooaaGreatDoorAgg
import Derived.Test.YtbeaheicjopooaaGreatDoorRsJoins
import Derived.Test.YtbeaheicjopooaaGreatDoorCards
import Derived.SevenTiedAt
namespace Go.Proofs.YtbeaheicjopooaaGreatDoor
open Go Go.ChangeShapes Go.WideShapes Go.ChangeAt Go.RowKit
open Go.ChangeMaps (open_string shut_string)
set_option maxRecDepth 100000 in
set_option linter.unusedVariables false in
theorem resolveJoins_lifted (os : Os) (started : os.Started) (H : Type) (enc : TypeId × Value → H) :
    ReturnsInHanded {} Tryz.checked os 3 .any (fun w args => (Rows.resolveJoinsSpec.pre enc Tryz.prog Tryz.f3 [] false w args ∧ laidMetH Tryz.prog Rows.resolveJoinsRow.laid w) ∧ sizedMet enc Tryz.prog Tryz.f3 (OpenSpec.ofChange Rows.resolveJoinsSpec) false w args)
      (Rows.resolveJoinsSpec.post enc Tryz.prog Tryz.f3 false true false false) := by
  refine ret_of (C := Tryz.checked) own started (by kernel_rfl) Tryz.func3
    (ChangeSpec.witness_shaped (enc := enc) (C := Tryz.checked) (os := os) (X := fun w _ => laidMetH Tryz.prog Rows.resolveJoinsRow.laid w) false (doorW os) #[.agg #[.bool false, .string ⟨#[]⟩, .string ⟨#[]⟩, .int .i64 0, .string ⟨#[]⟩, .string ⟨#[]⟩], .string ⟨#[]⟩] 8 (doorW_os os) (door_shaped os _) (by kernel_rfl) (by kernel_rfl) (by kernel_rfl) (door_met os _)) ?_
  intro W base args ds gs before hval0 hW hL hsh
  have hval : ∀ (j : Nat) t v, Tryz.f3.params[j]? = some t → args[j]? = some v → Value.okWide Tryz.prog W .any base t v := hval0
  have hW' := hW
  obtain ⟨p, q, hA0, hV, rfl, hfz, hnd⟩ := hW
  have hA : DataW.TrodAll enc Tryz.prog W 0 (fun _ => true) true Tryz.f3.params.toList args.toList ds p := hA0
  rw [Tryz.params3] at hA hval
  obtain ⟨v0, vs0, d0, ds0, p0, q0, hargs, rfl, rfl, h0, r0⟩ := trodAll_cons hA
  obtain ⟨v1, vs1, d1, ds1, p1, q1, rfl, rfl, rfl, h1, r1⟩ := trodAll_cons r0
  obtain ⟨rfl, rfl, rfl⟩ := trodAll_nil r1
  obtain rfl : args = #[v0, v1] := by cases args; simp_all
  obtain ⟨rfl, rfl⟩ := trodVars_none hV
  have k0 := h0
  obtain ⟨o0, a0, b0, n0, c0, e0, rfl, rfl, w0, u0⟩ := open_url (hval 0 23 v0 rfl rfl) h0
  have k1 := h1
  obtain ⟨⟨⟨l1⟩⟩, rfl, _, rfl, _⟩ := open_string Tryz.underlying9 (hval 1 9 v1 rfl rfl) h1
  clear hA0 hval0
  simp only [List.append_nil] at hW'
  refine (rsjoins_calls o0 a0 b0 n0 c0 e0 l1 W w0 u0 (env_of hL hsh (by kernel_rfl))).mono fun e W' ⟨he, hb⟩ => ?_
  subst he
  exact ⟨_, rfl, _, _, _, [], [], [], hW', trodAll_mk1 (shut_bool Tryz.underlying4 _), (trodAll_cons_mk (Below.trod laidOut (by kernel_rfl) (of_decide_eq_true (by kernel_rfl)) k0 hb (fun x hx => by cases hx)) (trodAll_cons_mk (Below.trod laidOut (by kernel_rfl) (of_decide_eq_true (by kernel_rfl)) k1 hb (fun x hx => by cases hx)) trodAll_mk0)), rfl, hb.frame _, fun h => by cases h⟩
theorem resolveJoins_inPlace : (Rows.resolveJoinsRow.inPlace == Tryz.prog.inPlace 3) = true := by kernel_rfl
theorem resolveJoins_unfollowed : (Rows.resolveJoinsRow.unfollowed == Tryz.prog.unfollowed 3) = true := by kernel_rfl
theorem resolveJoins_recurses : (Rows.resolveJoinsRow.recurses == Tryz.prog.recurses 3) = true := by kernel_rfl
theorem resolveJoins_named : (Rows.resolveJoinsRow.named == Tryz.prog.varsNamed 3) = true := by kernel_rfl
theorem resolveJoins_goes : false = Rows.resolveJoinsRow.goesBy Tryz.prog := by kernel_rfl
theorem resolveJoins_facts : joinedFacts Tryz.prog 3 Tryz.f3 Rows.resolveJoinsSpec Rows.resolveJoinsRow = true := by
  refine band (band (band (band (band (band (band (band (band (band (band (band (band (band (band (band (band (band (band (band (band (band (band (band (band (band (band (band (band (band (band ?_ ?_) ?_) ?_) ?_) ?_) ?_) ?_) ?_) ?_) ?_) ?_) ?_) ?_) ?_) ?_) ?_) ?_) ?_) ?_) ?_) ?_) ?_) ?_) ?_) ?_) ?_) ?_) ?_) ?_) ?_) ?_
  · as_aux_lemma => kernel_rfl
  · exact laidOut
  · exact f_mapsRowed
  · as_aux_lemma => kernel_rfl
  · as_aux_lemma => kernel_rfl
  · as_aux_lemma => kernel_rfl
  · as_aux_lemma => kernel_rfl
  · as_aux_lemma => kernel_rfl
  · as_aux_lemma => kernel_rfl
  · exact resolveJoins_inPlace
  · exact resolveJoins_unfollowed
  · exact resolveJoins_recurses
  · exact resolveJoins_named
  · as_aux_lemma => kernel_rfl
  · as_aux_lemma => kernel_rfl
  · as_aux_lemma => kernel_rfl
  · as_aux_lemma => kernel_rfl
  · as_aux_lemma => kernel_rfl
  · as_aux_lemma => kernel_rfl
  · as_aux_lemma => kernel_rfl
  · as_aux_lemma => kernel_rfl
  · as_aux_lemma => kernel_rfl
  · as_aux_lemma => kernel_rfl
  · as_aux_lemma => kernel_rfl
  · exact f_stopsHeard
  · exact f_mayEnter
  · exact f_lifted
  · as_aux_lemma => kernel_rfl
  · as_aux_lemma => kernel_rfl
  · as_aux_lemma => kernel_rfl
  · as_aux_lemma => kernel_rfl
  · as_aux_lemma => kernel_rfl
theorem resolveJoins_holds : Rows.ResolveJoinsSaid :=
  OpenClaim.holds_of_wide 3 Tryz.f3 rfl rfl rfl rfl rfl rfl rfl ⟨rfl, rfl, rfl, rfl, rfl⟩ rfl rfl rfl rfl rfl (by kernel_rfl) Tryz.func3 resolveJoins_facts
    (of_decide_eq_true (by kernel_rfl)) (by unfold Func.isWrapper; first | (rw [if_pos (by decide +kernel)]; kernel_rfl) | (rw [if_neg (by decide +kernel)]; exact ⟨rfl, rfl⟩))
    (fun os started H enc _ => resolveJoins_lifted os started H enc)
/-- THE TIED CARD. -/
theorem resolveJoins_card : Rows.ResolveJoinsCardSaid :=
  Claim7.holds_tied_plain_at .later [] [.data, .data, .data, .data, .sentinel, .sentinel, .pinned] true (true, "e85f1b6634fc2661fe1e276c8626348e7a642b5784d41602cc4b5e571490a67a") true
    resolveJoins_holds (fun _ h => by cases h) (by kernel_rfl) (fun _ h => by cases h) resolveJoins_row_tie rfl ⟨rfl, rfl⟩ (by kernel_rfl) rfl
    (fun f fn hf hfn => by
      obtain rfl : f = 3 := Option.some.inj ((show Tryz.prog.funcNamed "pounce/pouncelaw06.ResolveJoins" = some 3 by kernel_rfl).symm.trans hf) |>.symm
      obtain rfl : fn = Tryz.f3 := (Option.some.inj (Tryz.func3.symm.trans hfn)).symm
      exact ⟨f_looks, fun j t ht => by
        rw [Tryz.params3] at ht
        have hm : t ∈ [23, 9] := by simpa using Array.mem_of_getElem? ht
        have hall : ([23, 9].all fun u => !Tryz.prog.wantsStandIn u) = true := by as_aux_lemma => kernel_rfl
        exact (show Tryz.prog.wantsStandIn t = false by simpa using List.all_eq_true.1 hall t hm)⟩)
    resolveJoins_goes
#print axioms resolveJoins_card
end Go.Proofs.YtbeaheicjopooaaGreatDoor
