/- The row and the tied card of MatchScheme. -/
import Derived.Test.YtbeaheicjopooaaGreatDoorLaidM
import Derived.Test.YtbeaheicjopooaaGreatDoorKeptL
import Derived.Test.YtbeaheicjopooaaGreatDoorFactsM
import Derived.Test.YtbeaheicjopooaaGreatDoorAgg
import Derived.Test.YtbeaheicjopooaaGreatDoorAgg7
import Derived.Test.YtbeaheicjopooaaGreatDoorMScheme
import Derived.Test.YtbeaheicjopooaaGreatDoorCards
import Derived.SevenTiedAt
namespace Go.Proofs.YtbeaheicjopooaaGreatDoor
open Go Go.ChangeShapes Go.WideShapes Go.ChangeAt Go.RowKit
open Go.ChangeMaps (open_string shut_string)
set_option maxRecDepth 100000 in
set_option linter.unusedVariables false in
theorem matchScheme_lifted (os : Os) (started : os.Started) (H : Type) (enc : TypeId × Value → H) :
    ReturnsInHanded {} Tryz.checked os 9 .any (fun w args => (Rows.matchSchemeSpec.pre enc Tryz.prog Tryz.f9 [] false w args ∧ laidMetH Tryz.prog Rows.matchSchemeRow.laid w) ∧ sizedMet enc Tryz.prog Tryz.f9 (OpenSpec.ofChange Rows.matchSchemeSpec) false w args)
      (Rows.matchSchemeSpec.post enc Tryz.prog Tryz.f9 false true false false) := by
  refine ret_of (C := Tryz.checked) own started (by kernel_rfl) Tryz.func9
    (ChangeSpec.witness_shaped (enc := enc) (C := Tryz.checked) (os := os) (X := fun w _ => laidMetH Tryz.prog Rows.matchSchemeRow.laid w) false (doorW os) #[.agg #[.int .i64 0, .string ⟨#[]⟩, .string ⟨#[]⟩, .string ⟨#[]⟩, .bool false, .int .i64 0, .string ⟨#[]⟩], .agg #[.bool false, .string ⟨#[]⟩, .string ⟨#[]⟩, .int .i64 0, .string ⟨#[]⟩, .string ⟨#[]⟩], .agg #[.bool false, .string ⟨#[]⟩, .string ⟨#[]⟩, .int .i64 0, .string ⟨#[]⟩, .string ⟨#[]⟩], .bool false] 8 (doorW_os os) (door_shaped os _) (by kernel_rfl) (by kernel_rfl) (by kernel_rfl) (door_met os _)) ?_
  intro W base args ds gs before hval0 hW hL hsh
  have hval : ∀ (j : Nat) t v, Tryz.f9.params[j]? = some t → args[j]? = some v → Value.okWide Tryz.prog W .any base t v := hval0
  have hW' := hW
  obtain ⟨p, q, hA0, hV, rfl, hfz, hnd⟩ := hW
  have hA : DataW.TrodAll enc Tryz.prog W 0 (fun _ => true) true Tryz.f9.params.toList args.toList ds p := hA0
  rw [Tryz.params9] at hA hval
  obtain ⟨v0, vs0, d0, ds0, p0, q0, hargs, rfl, rfl, h0, r0⟩ := trodAll_cons hA
  obtain ⟨v1, vs1, d1, ds1, p1, q1, rfl, rfl, rfl, h1, r1⟩ := trodAll_cons r0
  obtain ⟨v2, vs2, d2, ds2, p2, q2, rfl, rfl, rfl, h2, r2⟩ := trodAll_cons r1
  obtain ⟨v3, vs3, d3, ds3, p3, q3, rfl, rfl, rfl, h3, r3⟩ := trodAll_cons r2
  obtain ⟨rfl, rfl, rfl⟩ := trodAll_nil r3
  obtain rfl : args = #[v0, v1, v2, v3] := by cases args; simp_all
  obtain ⟨rfl, rfl⟩ := trodVars_none hV
  have k0 := h0
  obtain ⟨k0s, t0, s0, g0, f0, m0, a0, rfl, rfl⟩ := open_src (hval 0 33 v0 rfl rfl) h0
  have k1 := h1
  obtain ⟨o1, a1, b1, n1, c1, e1, rfl, rfl, w1, u1⟩ := open_url (hval 1 23 v1 rfl rfl) h1
  have k2 := h2
  obtain ⟨o2, a2, b2, n2, c2, e2, rfl, rfl, w2, u2⟩ := open_url (hval 2 23 v2 rfl rfl) h2
  have k3 := h3
  obtain ⟨b3, rfl, _, rfl⟩ := open_bool Tryz.underlying4 (hval 3 4 v3 rfl rfl) h3
  clear hA0 hval0
  simp only [List.append_nil] at hW'
  refine (matchscheme_calls k0s t0 s0 g0 f0 m0 a0 o1 a1 b1 n1 c1 e1 o2 a2 b2 n2 c2 e2 b3 W w1 u1 w2 u2 (env_of hL hsh (by kernel_rfl)) (kept_of hL hsh (by kernel_rfl))).mono fun e W' ⟨he, hb⟩ => ?_
  subst he
  exact ⟨_, rfl, _, _, _, [], [], [], hW', trodAll_mk1 (shut_bool Tryz.underlying4 _), (trodAll_cons_mk (Below.trod laidOut (by kernel_rfl) (of_decide_eq_true (by kernel_rfl)) k0 hb (fun x hx => by cases hx)) (trodAll_cons_mk (Below.trod laidOut (by kernel_rfl) (of_decide_eq_true (by kernel_rfl)) k1 hb (fun x hx => by cases hx)) (trodAll_cons_mk (Below.trod laidOut (by kernel_rfl) (of_decide_eq_true (by kernel_rfl)) k2 hb (fun x hx => by cases hx)) (trodAll_cons_mk (Below.trod laidOut (by kernel_rfl) (of_decide_eq_true (by kernel_rfl)) k3 hb (fun x hx => by cases hx)) trodAll_mk0)))), rfl, hb.frame _, fun h => by cases h⟩
theorem matchScheme_inPlace : (Rows.matchSchemeRow.inPlace == Tryz.prog.inPlace 9) = true := by kernel_rfl
theorem matchScheme_unfollowed : (Rows.matchSchemeRow.unfollowed == Tryz.prog.unfollowed 9) = true := by kernel_rfl
theorem matchScheme_recurses : (Rows.matchSchemeRow.recurses == Tryz.prog.recurses 9) = true := by kernel_rfl
theorem matchScheme_named : (Rows.matchSchemeRow.named == Tryz.prog.varsNamed 9) = true := by kernel_rfl
theorem matchScheme_goes : false = Rows.matchSchemeRow.goesBy Tryz.prog := by kernel_rfl
theorem matchScheme_facts : joinedFacts Tryz.prog 9 Tryz.f9 Rows.matchSchemeSpec Rows.matchSchemeRow = true := by
  refine band (band (band (band (band (band (band (band (band (band (band (band (band (band (band (band (band (band (band (band (band (band (band (band (band (band (band (band (band (band (band ?_ ?_) ?_) ?_) ?_) ?_) ?_) ?_) ?_) ?_) ?_) ?_) ?_) ?_) ?_) ?_) ?_) ?_) ?_) ?_) ?_) ?_) ?_) ?_) ?_) ?_) ?_) ?_) ?_) ?_) ?_) ?_
  · as_aux_lemma => kernel_rfl
  · exact laidOut
  · exact f_mapsRowed
  · as_aux_lemma => kernel_rfl
  · as_aux_lemma => kernel_rfl
  · as_aux_lemma => kernel_rfl
  · as_aux_lemma => kernel_rfl
  · as_aux_lemma => kernel_rfl
  · as_aux_lemma => kernel_rfl
  · exact matchScheme_inPlace
  · exact matchScheme_unfollowed
  · exact matchScheme_recurses
  · exact matchScheme_named
  · as_aux_lemma => kernel_rfl
  · as_aux_lemma => kernel_rfl
  · as_aux_lemma => kernel_rfl
  · as_aux_lemma => kernel_rfl
  · as_aux_lemma => kernel_rfl
  · as_aux_lemma => kernel_rfl
  · as_aux_lemma => kernel_rfl
  · as_aux_lemma => kernel_rfl
  · as_aux_lemma => kernel_rfl
  · as_aux_lemma => kernel_rfl
  · as_aux_lemma => kernel_rfl
  · exact f_stopsHeard
  · exact f_mayEnter
  · exact f_lifted
  · as_aux_lemma => kernel_rfl
  · as_aux_lemma => kernel_rfl
  · as_aux_lemma => kernel_rfl
  · as_aux_lemma => kernel_rfl
  · as_aux_lemma => kernel_rfl
theorem matchScheme_holds : Rows.MatchSchemeSaid :=
  OpenClaim.holds_of_wide 9 Tryz.f9 rfl rfl rfl rfl rfl rfl rfl ⟨rfl, rfl, rfl, rfl, rfl⟩ rfl rfl rfl rfl rfl (by kernel_rfl) Tryz.func9 matchScheme_facts
    (of_decide_eq_true (by kernel_rfl)) (by unfold Func.isWrapper; first | (rw [if_pos (by decide +kernel)]; kernel_rfl) | (rw [if_neg (by decide +kernel)]; exact ⟨rfl, rfl⟩))
    (fun os started H enc _ => matchScheme_lifted os started H enc)
/-- THE TIED CARD. -/
theorem matchScheme_card : Rows.MatchSchemeCardSaid :=
  Claim7.holds_tied_plain_at .later [] [.data, .data, .data, .data, .sentinel, .sentinel, .data, .pinned] true (true, "e85f1b6634fc2661fe1e276c8626348e7a642b5784d41602cc4b5e571490a67a") true
    matchScheme_holds (fun _ h => by cases h) (by kernel_rfl) (fun _ h => by cases h) matchScheme_row_tie rfl ⟨rfl, rfl⟩ (by kernel_rfl) rfl
    (fun f fn hf hfn => by
      obtain rfl : f = 9 := Option.some.inj ((show Tryz.prog.funcNamed "pounce/pouncelaw10.MatchScheme" = some 9 by kernel_rfl).symm.trans hf) |>.symm
      obtain rfl : fn = Tryz.f9 := (Option.some.inj (Tryz.func9.symm.trans hfn)).symm
      exact ⟨f_looks, fun j t ht => by
        rw [Tryz.params9] at ht
        have hm : t ∈ [33, 23, 23, 4] := by simpa using Array.mem_of_getElem? ht
        have hall : ([33, 23, 23, 4].all fun u => !Tryz.prog.wantsStandIn u) = true := by as_aux_lemma => kernel_rfl
        exact (show Tryz.prog.wantsStandIn t = false by simpa using List.all_eq_true.1 hall t hm)⟩)
    matchScheme_goes
#print axioms matchScheme_card
end Go.Proofs.YtbeaheicjopooaaGreatDoor
