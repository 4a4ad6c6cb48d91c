/-
  PROVED: 'coinagelaw28.PqtreeReduces' answers true whatever the input, and each argument reads afterwards as it read before.
  CONDITIONS: the row's own: the listed tables start as the program's text lays them (the card ties them).
-/
import Derived.Test.YtjkbamfcoiikmaaGreatDoorLaw40
import Derived.Test.YtjkbamfcoiikmaaGreatDoorLaw28
import Derived.Test.YtjkbamfcoiikmaaGreatDoorT7
import Derived.Test.YtjkbamfcoiikmaaGreatDoorTie
import Derived.Test.YtjkbamfcoiikmaaGreatDoorCards
import Derived.SevenTiedAt
namespace Go.Proofs.YtjkbamfcoiikmaaGreatDoor.pqtreeReduces
open Go Go.RowKit Go.Nat9 Go.Fw Go.ChangeShapes Go.WideShapes Go.ChangeAt Go.Proofs.YtjkbamfcoiikmaaGreatDoor

theorem laid_met (os : Os) (args : Array Value) : laidMetH Tryz.prog Rows.pqtreeReducesRow.laid ((World.laidAll Tryz.prog os Rows.pqtreeReducesRow.laid).forCall (fun _ _ => 0) ⟨#[], args, []⟩).memory := by
  rw [MakeChecks.laidMetH_plain _ _ _ (by kernel_rfl)]
  exact laidMet_laidAll _ (by kernel_rfl) (by kernel_rfl)

set_option maxRecDepth 100000 in
theorem lifted (os : Os) (started : os.Started) (H : Type) (enc : TypeId × Value → H) :
    ReturnsInHanded {} Tryz.checked os 3 .any (fun w args => (Rows.pqtreeReducesSpec.pre enc Tryz.prog Tryz.f3 [] false w args ∧ laidMetH Tryz.prog Rows.pqtreeReducesRow.laid w) ∧ sizedMet enc Tryz.prog Tryz.f3 (OpenSpec.ofChange Rows.pqtreeReducesSpec) false w args)
      (Rows.pqtreeReducesSpec.post enc Tryz.prog Tryz.f3 false true false false) := by
  refine returnsInHanded_of_change_and (C := Tryz.checked) (X := fun w _ => laidMetH Tryz.prog Rows.pqtreeReducesRow.laid w) (fun _ _ _ hh h => h.of_heap hh) own started (by kernel_rfl) Tryz.func3
    (ChangeSpec.witness_shaped (enc := enc) (C := Tryz.checked) (os := os) (X := fun w _ => laidMetH Tryz.prog Rows.pqtreeReducesRow.laid w) false (World.laidAll Tryz.prog os Rows.pqtreeReducesRow.laid) #[.int .i64 0, .slice none 0 0] 8 (World.laidAll_os _ _ _) (World.shaped_of_ZipB (by kernel_rfl) (by kernel_rfl)) (by kernel_rfl) (by kernel_rfl) (by kernel_rfl) (laid_met os _)) ?_
  intro W base args ds gs before hval0 hW _ _ _ _
  have hval : ∀ (j : Nat) t v, Tryz.f3.params[j]? = some t → args[j]? = some v → Value.okWide Tryz.prog W .any base t v := hval0
  have hW' := hW
  obtain ⟨p, q, hA0, hV, rfl, hfz, hnd⟩ := hW
  have hA : DataW.TrodAll enc Tryz.prog W 0 (fun _ => true) true Tryz.f3.params.toList args.toList ds p := hA0
  have hAk := hA
  rw [Tryz.params3] at hA hval
  obtain ⟨v0, vs0, d0, ds0, p0, q0, hargs, rfl, rfl, h0, t0⟩ := trodAll_cons hA
  obtain ⟨v1, vs1, d1, ds1, p1, q1, rfl, rfl, rfl, h1, t1⟩ := trodAll_cons t0
  obtain ⟨rfl, rfl, rfl⟩ := trodAll_nil t1
  obtain rfl : args = #[v0, v1] := by cases args; simp_all
  obtain ⟨rfl, rfl⟩ := trodVars_none hV
  obtain ⟨a0, rfl, ha0, hb0⟩ := open_intV (hval 0 3 v0 rfl rfl) h0
  obtain ⟨ad1, c1, l1, rfl, q1, g1⟩ := open_rowsV (hval 1 22 v1 rfl rfl) h1
  refine ((Go.Fw.K.pqtreeReduces_con ha0 hb0 q1) W g1).mono ?_
  rintro e W' ⟨v, φo, rfl, ⟨rfl, rfl⟩, hb, _⟩
  refine ⟨_, rfl, post_of_below (pv := []) hW' ?_ (trodAll_below laidOut hb (by kernel_rfl) hAk (fun x hx => by simpa using hW'.lt x (by simpa using hx))) rfl hb⟩
  intro b sp hd
  exact trodAll_mk1 (shut_bool Tryz.underlying4 true)

theorem said : Rows.PqtreeReducesSaid :=
  OpenClaim.holds_of_wide 3 Tryz.f3 rfl rfl rfl rfl rfl rfl rfl ⟨rfl, rfl, rfl, rfl, rfl⟩ rfl rfl rfl rfl rfl (by kernel_rfl) Tryz.func3 (by kernel_rfl)
    (of_decide_eq_true (by kernel_rfl)) (by unfold Func.isWrapper; first | (rw [if_pos (by decide +kernel)]; kernel_rfl) | (rw [if_neg (by decide +kernel)]; exact ⟨rfl, rfl⟩))
    (fun os started H enc _ => lifted os started H enc)

theorem holds : Rows.PqtreeReducesCardSaid :=
  Claim7.holds_tied_plain_at .later [] [.data, .data, .data] true (Rows.pqtreeReducesCard.stood.harness) false
    said (fun _ h => by cases h) (by kernel_rfl) (fun _ h => by cases h) pqtreeReduces_row_tie rfl ⟨rfl, rfl⟩ (by kernel_rfl) rfl
    (fun f fn hf hfn => by
      obtain rfl : f = 3 := Option.some.inj ((show Tryz.prog.funcNamed "coinage/coinagelaw28.PqtreeReduces" = some 3 by kernel_rfl).symm.trans hf) |>.symm
      obtain rfl : fn = Tryz.f3 := (Option.some.inj (Tryz.func3.symm.trans hfn)).symm
      exact ⟨by kernel_rfl, fun j t ht => by
        rw [Tryz.params3] at ht
        have hm : t ∈ [3, 22] := by simpa using Array.mem_of_getElem? ht
        have hall : ([3, 22].all fun u => !Tryz.prog.wantsStandIn u) = true := by kernel_rfl
        exact (show Tryz.prog.wantsStandIn t = false by simpa using List.all_eq_true.1 hall t hm)⟩)
    (by kernel_rfl)
end Go.Proofs.YtjkbamfcoiikmaaGreatDoor.pqtreeReduces
