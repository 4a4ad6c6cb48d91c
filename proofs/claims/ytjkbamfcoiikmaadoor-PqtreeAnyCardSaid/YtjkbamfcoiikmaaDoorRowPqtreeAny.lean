/-
  PROVED: 'coinagelaw28.PqtreeAny' answers true whatever the input, and each argument reads afterwards as it read before.
  CONDITIONS: the row's own: the listed tables start as the program's text lays them (the card ties them).
-/
import Derived.Test.YtjkbamfcoiikmaaDoorLaw40
import Derived.Test.YtjkbamfcoiikmaaDoorLaw28
import Derived.Test.YtjkbamfcoiikmaaDoorT2
import Derived.Test.YtjkbamfcoiikmaaDoorTie
import Derived.Test.YtjkbamfcoiikmaaDoorCards
import Derived.SevenTiedAt
namespace Go.Proofs.YtjkbamfcoiikmaaDoor.pqtreeAny
open Go Go.RowKit Go.Nat9 Go.Fw Go.ChangeShapes Go.WideShapes Go.ChangeAt Go.Proofs.YtjkbamfcoiikmaaDoor

theorem laid_met (os : Os) (args : Array Value) : laidMetH Tryd.prog Rows.pqtreeAnyRow.laid ((World.laidAll Tryd.prog os Rows.pqtreeAnyRow.laid).forCall (fun _ _ => 0) ⟨#[], args, []⟩).memory := by
  rw [MakeChecks.laidMetH_plain _ _ _ (by kernel_rfl)]
  exact laidMet_laidAll _ (by kernel_rfl) (by kernel_rfl)

set_option maxRecDepth 100000 in
theorem lifted (os : Os) (started : os.Started) (H : Type) (enc : TypeId × Value → H) :
    ReturnsInHanded {} Tryd.checked os 4 .any (fun w args => (Rows.pqtreeAnySpec.pre enc Tryd.prog Tryd.f4 [] false w args ∧ laidMetH Tryd.prog Rows.pqtreeAnyRow.laid w) ∧ sizedMet enc Tryd.prog Tryd.f4 (OpenSpec.ofChange Rows.pqtreeAnySpec) false w args)
      (Rows.pqtreeAnySpec.post enc Tryd.prog Tryd.f4 false true false false) := by
  refine returnsInHanded_of_change_and (C := Tryd.checked) (X := fun w _ => laidMetH Tryd.prog Rows.pqtreeAnyRow.laid w) (fun _ _ _ hh h => h.of_heap hh) own started (by kernel_rfl) Tryd.func4
    (ChangeSpec.witness_shaped (enc := enc) (C := Tryd.checked) (os := os) (X := fun w _ => laidMetH Tryd.prog Rows.pqtreeAnyRow.laid w) false (World.laidAll Tryd.prog os Rows.pqtreeAnyRow.laid) #[.int .i64 0, .slice none 0 0] 8 (World.laidAll_os _ _ _) (World.shaped_of_ZipB (by kernel_rfl) (by kernel_rfl)) (by kernel_rfl) (by kernel_rfl) (by kernel_rfl) (laid_met os _)) ?_
  intro W base args ds gs before hval0 hW _ _ _ _
  have hval : ∀ (j : Nat) t v, Tryd.f4.params[j]? = some t → args[j]? = some v → Value.okWide Tryd.prog W .any base t v := hval0
  have hW' := hW
  obtain ⟨p, q, hA0, hV, rfl, hfz, hnd⟩ := hW
  have hA : DataW.TrodAll enc Tryd.prog W 0 (fun _ => true) true Tryd.f4.params.toList args.toList ds p := hA0
  have hAk := hA
  rw [Tryd.params4] at hA hval
  obtain ⟨v0, vs0, d0, ds0, p0, q0, hargs, rfl, rfl, h0, t0⟩ := trodAll_cons hA
  obtain ⟨v1, vs1, d1, ds1, p1, q1, rfl, rfl, rfl, h1, t1⟩ := trodAll_cons t0
  obtain ⟨rfl, rfl, rfl⟩ := trodAll_nil t1
  obtain rfl : args = #[v0, v1] := by cases args; simp_all
  obtain ⟨rfl, rfl⟩ := trodVars_none hV
  obtain ⟨a0, rfl, ha0, hb0⟩ := open_intV (hval 0 3 v0 rfl rfl) h0
  obtain ⟨ad1, c1, l1, rfl, q1, g1⟩ := open_rowsV (hval 1 22 v1 rfl rfl) h1
  refine ((Go.Fw.K.pqtreeAny_con ha0 hb0 q1) W g1).mono ?_
  rintro e W' ⟨v, φo, rfl, ⟨rfl, rfl⟩, hb, _⟩
  refine ⟨_, rfl, post_of_below (pv := []) hW' ?_ (trodAll_below laidOut hb (by kernel_rfl) hAk (fun x hx => by simpa using hW'.lt x (by simpa using hx))) rfl hb⟩
  intro b sp hd
  exact trodAll_mk1 (shut_bool Tryd.underlying4 true)

theorem said : Rows.PqtreeAnySaid :=
  OpenClaim.holds_of_wide 4 Tryd.f4 rfl rfl rfl rfl rfl rfl rfl ⟨rfl, rfl, rfl, rfl, rfl⟩ rfl rfl rfl rfl rfl (by kernel_rfl) Tryd.func4 (by kernel_rfl)
    (of_decide_eq_true (by kernel_rfl)) (by unfold Func.isWrapper; first | (rw [if_pos (by decide +kernel)]; kernel_rfl) | (rw [if_neg (by decide +kernel)]; exact ⟨rfl, rfl⟩))
    (fun os started H enc _ => lifted os started H enc)

theorem holds : Rows.PqtreeAnyCardSaid :=
  Claim7.holds_tied_plain_at .later [] [.data, .data, .data] true (Rows.pqtreeAnyCard.stood.harness) false
    said (fun _ h => by cases h) (by kernel_rfl) (fun _ h => by cases h) pqtreeAny_row_tie rfl ⟨rfl, rfl⟩ (by kernel_rfl) rfl
    (fun f fn hf hfn => by
      obtain rfl : f = 4 := Option.some.inj ((show Tryd.prog.funcNamed "coinage/coinagelaw28.PqtreeAny" = some 4 by kernel_rfl).symm.trans hf) |>.symm
      obtain rfl : fn = Tryd.f4 := (Option.some.inj (Tryd.func4.symm.trans hfn)).symm
      exact ⟨by kernel_rfl, fun j t ht => by
        rw [Tryd.params4] at ht
        have hm : t ∈ [3, 22] := by simpa using Array.mem_of_getElem? ht
        have hall : ([3, 22].all fun u => !Tryd.prog.wantsStandIn u) = true := by kernel_rfl
        exact (show Tryd.prog.wantsStandIn t = false by simpa using List.all_eq_true.1 hall t hm)⟩)
    (by kernel_rfl)
end Go.Proofs.YtjkbamfcoiikmaaDoor.pqtreeAny
