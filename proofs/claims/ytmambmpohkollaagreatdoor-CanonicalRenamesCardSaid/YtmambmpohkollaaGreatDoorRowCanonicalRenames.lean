/-
  PROVED: 'coinagelaw16.CanonicalRenames' answers true whatever the input, and each argument reads afterwards as it read before.
  CONDITIONS: the row's own: the listed tables start as the program's text lays them (the card ties them).
-/
import Derived.Test.YtmambmpohkollaaGreatDoorLaw40
import Derived.Test.YtmambmpohkollaaGreatDoorLaw16
import Derived.Test.YtmambmpohkollaaGreatDoorT6
import Derived.Test.YtmambmpohkollaaGreatDoorTie
import Derived.Test.YtmambmpohkollaaGreatDoorCards
import Derived.SevenTiedAt
namespace Go.Proofs.YtmambmpohkollaaGreatDoor.canonicalRenames
open Go Go.RowKit Go.Nat9 Go.Fw Go.ChangeShapes Go.WideShapes Go.ChangeAt Go.Proofs.YtmambmpohkollaaGreatDoor

theorem laid_met (os : Os) (args : Array Value) : laidMetH Tryz.prog Rows.canonicalRenamesRow.laid ((World.laidAll Tryz.prog os Rows.canonicalRenamesRow.laid).forCall (fun _ _ => 0) ⟨#[], args, []⟩).memory := by
  rw [MakeChecks.laidMetH_plain _ _ _ (by kernel_rfl)]
  exact laidMet_laidAll _ (by kernel_rfl) (by kernel_rfl)

set_option maxRecDepth 100000 in
theorem lifted (os : Os) (started : os.Started) (H : Type) (enc : TypeId × Value → H) :
    ReturnsInHanded {} Tryz.checked os 7 .any (fun w args => (Rows.canonicalRenamesSpec.pre enc Tryz.prog Tryz.f7 [] false w args ∧ laidMetH Tryz.prog Rows.canonicalRenamesRow.laid w) ∧ sizedMet enc Tryz.prog Tryz.f7 (OpenSpec.ofChange Rows.canonicalRenamesSpec) false w args)
      (Rows.canonicalRenamesSpec.post enc Tryz.prog Tryz.f7 false true false false) := by
  refine returnsInHanded_of_change_and (C := Tryz.checked) (X := fun w _ => laidMetH Tryz.prog Rows.canonicalRenamesRow.laid w) (fun _ _ _ hh h => h.of_heap hh) own started (by kernel_rfl) Tryz.func7
    (ChangeSpec.witness_shaped (enc := enc) (C := Tryz.checked) (os := os) (X := fun w _ => laidMetH Tryz.prog Rows.canonicalRenamesRow.laid w) false (World.laidAll Tryz.prog os Rows.canonicalRenamesRow.laid) #[.agg #[.slice none 0 0, .slice none 0 0, .slice none 0 0], .slice none 0 0, .slice none 0 0] 8 (World.laidAll_os _ _ _) (World.shaped_of_ZipB (by kernel_rfl) (by kernel_rfl)) (by kernel_rfl) (by kernel_rfl) (by kernel_rfl) (laid_met os _)) ?_
  intro W base args ds gs before hval0 hW _ _ _ _
  have hval : ∀ (j : Nat) t v, Tryz.f7.params[j]? = some t → args[j]? = some v → Value.okWide Tryz.prog W .any base t v := hval0
  have hW' := hW
  obtain ⟨p, q, hA0, hV, rfl, hfz, hnd⟩ := hW
  have hA : DataW.TrodAll enc Tryz.prog W 0 (fun _ => true) true Tryz.f7.params.toList args.toList ds p := hA0
  have hAk := hA
  rw [Tryz.params7] at hA hval
  obtain ⟨v0, vs0, d0, ds0, p0, q0, hargs, rfl, rfl, h0, t0⟩ := trodAll_cons hA
  obtain ⟨v1, vs1, d1, ds1, p1, q1, rfl, rfl, rfl, h1, t1⟩ := trodAll_cons t0
  obtain ⟨v2, vs2, d2, ds2, p2, q2, rfl, rfl, rfl, h2, t2⟩ := trodAll_cons t1
  obtain ⟨rfl, rfl, rfl⟩ := trodAll_nil t2
  obtain rfl : args = #[v0, v1, v2] := by cases args; simp_all
  obtain ⟨rfl, rfl⟩ := trodVars_none hV
  obtain ⟨ad1a, c1a, O1, ad1b, c1b, R1, ad1c, c1c, K1, rfl, g0⟩ := open_grV (hval 0 25 v0 rfl rfl) h0
  obtain ⟨ad2, c2, L2, rfl, g1⟩ := open_intsV (hval 1 22 v1 rfl rfl) h1
  obtain ⟨ad3, c3, L3, rfl, g2⟩ := open_intsV (hval 2 22 v2 rfl rfl) h2
  refine ((Go.Fw.K.canonicalRenames_con ) W (holds_append g0 (holds_append g1 g2))).mono ?_
  rintro e W' ⟨v, φo, rfl, ⟨rfl, rfl⟩, hb, _⟩
  refine ⟨_, rfl, post_of_below (pv := []) hW' ?_ (trodAll_below laidOut hb (by kernel_rfl) hAk (fun x hx => by simpa using hW'.lt x (by simpa using hx))) rfl hb⟩
  intro b sp hd
  exact trodAll_mk1 (shut_bool Tryz.underlying4 true)

theorem said : Rows.CanonicalRenamesSaid :=
  OpenClaim.holds_of_wide 7 Tryz.f7 rfl rfl rfl rfl rfl rfl rfl ⟨rfl, rfl, rfl, rfl, rfl⟩ rfl rfl rfl rfl rfl (by kernel_rfl) Tryz.func7 (by kernel_rfl)
    (of_decide_eq_true (by kernel_rfl)) (by unfold Func.isWrapper; first | (rw [if_pos (by decide +kernel)]; kernel_rfl) | (rw [if_neg (by decide +kernel)]; exact ⟨rfl, rfl⟩))
    (fun os started H enc _ => lifted os started H enc)

theorem holds : Rows.CanonicalRenamesCardSaid :=
  Claim7.holds_tied_plain_at .later [] [.data, .data, .data] true (Rows.canonicalRenamesCard.stood.harness) false
    said (fun _ h => by cases h) (by kernel_rfl) (fun _ h => by cases h) canonicalRenames_row_tie rfl ⟨rfl, rfl⟩ (by kernel_rfl) rfl
    (fun f fn hf hfn => by
      obtain rfl : f = 7 := Option.some.inj ((show Tryz.prog.funcNamed "coinage/coinagelaw16.CanonicalRenames" = some 7 by kernel_rfl).symm.trans hf) |>.symm
      obtain rfl : fn = Tryz.f7 := (Option.some.inj (Tryz.func7.symm.trans hfn)).symm
      exact ⟨by kernel_rfl, fun j t ht => by
        rw [Tryz.params7] at ht
        have hm : t ∈ [25, 22, 22] := by simpa using Array.mem_of_getElem? ht
        have hall : ([25, 22, 22].all fun u => !Tryz.prog.wantsStandIn u) = true := by kernel_rfl
        exact (show Tryz.prog.wantsStandIn t = false by simpa using List.all_eq_true.1 hall t hm)⟩)
    (by kernel_rfl)
end Go.Proofs.YtmambmpohkollaaGreatDoor.canonicalRenames
