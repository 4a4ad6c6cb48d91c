/-
  PROVED: 'coinagelaw45.IssueSums' answers true whatever the input, and each argument reads afterwards as it read before.
  CONDITIONS: the row's own: the listed tables start as the program's text lays them (the card ties them).
-/
import Derived.Test.YtmbgbodkhdfdoaaDoorLaw45
import Derived.Test.YtmbgbodkhdfdoaaDoorY1
import Derived.Test.YtmbgbodkhdfdoaaDoorTie
import Derived.Test.YtmbgbodkhdfdoaaDoorCards
import Derived.SevenTiedAt
namespace Go.Proofs.YtmbgbodkhdfdoaaDoor
open Go Go.RowKit Go.Nat9 Go.Fw Go.ChangeShapes Go.WideShapes Go.ChangeAt

def zspan : Value := .agg #[.bool false, .slice none 0 0, .slice none 0 0, .bool false, .slice none 0 0, .slice none 0 0]
theorem laid_met (os : Os) (args : Array Value) : laidMetH Tryd.prog Rows.issueSumsRow.laid ((World.laidAll Tryd.prog os Rows.issueSumsRow.laid).forCall (fun _ _ => 0) ⟨#[], args, []⟩).memory := by
  rw [MakeChecks.laidMetH_plain _ _ _ (by kernel_rfl)]
  exact laidMet_laidAll _ (by kernel_rfl) (by kernel_rfl)

set_option maxRecDepth 100000 in
theorem issueSums_lifted (os : Os) (started : os.Started) (H : Type) (enc : TypeId × Value → H) :
    ReturnsInHanded {} Tryd.checked os 3 .any (fun w args => (Rows.issueSumsSpec.pre enc Tryd.prog Tryd.f3 [] false w args ∧ laidMetH Tryd.prog Rows.issueSumsRow.laid w) ∧ sizedMet enc Tryd.prog Tryd.f3 (OpenSpec.ofChange Rows.issueSumsSpec) false w args)
      (Rows.issueSumsSpec.post enc Tryd.prog Tryd.f3 false true false false) := by
  refine returnsInHanded_of_change_and (C := Tryd.checked) (X := fun w _ => laidMetH Tryd.prog Rows.issueSumsRow.laid w) (fun _ _ _ hh h => h.of_heap hh) own started (by kernel_rfl) Tryd.func3
    (ChangeSpec.witness_shaped (enc := enc) (C := Tryd.checked) (os := os) (X := fun w _ => laidMetH Tryd.prog Rows.issueSumsRow.laid w) false (World.laidAll Tryd.prog os Rows.issueSumsRow.laid) #[zspan, zspan] 8 (World.laidAll_os _ _ _) (World.shaped_of_ZipB (by kernel_rfl) (by kernel_rfl)) (by kernel_rfl) (by kernel_rfl) (by kernel_rfl) (laid_met os _)) ?_
  intro W base args ds gs before hval0 hW _ _ _ _
  have hval : ∀ (j : Nat) t v, Tryd.f3.params[j]? = some t → args[j]? = some v → Value.okWide Tryd.prog W .any base t v := hval0
  have hW' := hW
  obtain ⟨p, q, hA0, hV, rfl, hfz, hnd⟩ := hW
  have hA : DataW.TrodAll enc Tryd.prog W 0 (fun _ => true) true Tryd.f3.params.toList args.toList ds p := hA0
  have hAk := hA
  rw [Tryd.params3] at hA hval
  obtain ⟨v0, v1, d0, d1, p0, p1, rfl, rfl, rfl, h0, h1⟩ := trodAll_two hA
  obtain ⟨rfl, rfl⟩ := trodVars_none hV
  obtain ⟨s1, ad1, n1, c1, L1, be1, m1, e1, M1, s2, ad2, n2, c2, L2, be2, m2, e2, M2, rfl, r1, r2, g12⟩ := open_span (hval 0 28 v0 rfl rfl) h0
  obtain ⟨s3, ad3, n3, c3, L3, be3, m3, e3, M3, s4, ad4, n4, c4, L4, be4, m4, e4, M4, rfl, r3, r4, g34⟩ := open_span (hval 1 28 v1 rfl rfl) h1
  refine ((Go.Fw.K.issueSums_con r1 r2 r3 r4) W (holds_append g12 g34)).mono ?_
  rintro e W' ⟨v, φo, rfl, ⟨rfl, rfl⟩, hb, _⟩
  refine ⟨_, rfl, post_of_below (pa := p0 ++ p1) (pv := []) hW' ?_ ?_ rfl hb⟩
  · intro b sp hd
    exact trodAll_mk1 (shut_bool Tryd.underlying4 true)
  · exact trodAll_below laidOut hb (by kernel_rfl) hAk (fun x hx => by simpa using hW'.lt x (by simpa using hx))

theorem issueSums_said : Rows.IssueSumsSaid :=
  OpenClaim.holds_of_wide 3 Tryd.f3 rfl rfl rfl rfl rfl rfl rfl ⟨rfl, rfl, rfl, rfl, rfl⟩ rfl rfl rfl rfl rfl (by kernel_rfl) Tryd.func3 (by kernel_rfl)
    (of_decide_eq_true (by kernel_rfl)) (by unfold Func.isWrapper; first | (rw [if_pos (by decide +kernel)]; kernel_rfl) | (rw [if_neg (by decide +kernel)]; exact ⟨rfl, rfl⟩))
    (fun os started H enc _ => issueSums_lifted os started H enc)

theorem issueSums_holds : Rows.IssueSumsCardSaid :=
  Claim7.holds_tied_plain_at .later [] [.data, .data, .data] true (Rows.issueSumsCard.stood.harness) false
    issueSums_said (fun _ h => by cases h) (by kernel_rfl) (fun _ h => by cases h) issueSums_row_tie rfl ⟨rfl, rfl⟩ (by kernel_rfl) rfl
    (fun f fn hf hfn => by
      obtain rfl : f = 3 := Option.some.inj ((show Tryd.prog.funcNamed "coinage/coinagelaw45.IssueSums" = some 3 by kernel_rfl).symm.trans hf) |>.symm
      obtain rfl : fn = Tryd.f3 := (Option.some.inj (Tryd.func3.symm.trans hfn)).symm
      exact ⟨by kernel_rfl, fun j t ht => by
        rw [Tryd.params3] at ht
        have hm : t ∈ [28, 28] := by simpa using Array.mem_of_getElem? ht
        have hall : ([28, 28].all fun u => !Tryd.prog.wantsStandIn u) = true := by kernel_rfl
        exact (show Tryd.prog.wantsStandIn t = false by simpa using List.all_eq_true.1 hall t hm)⟩)
    (by kernel_rfl)
end Go.Proofs.YtmbgbodkhdfdoaaDoor
