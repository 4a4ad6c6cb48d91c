/-
  PROVED: 'coinagelaw18.CorrespondenceOne' answers true whatever the input, and each argument reads afterwards as it read before.
-/
import Derived.Test.YtfkfmpfohaomhaaGreatLaw40
import Derived.Test.YtfkfmpfohaomhaaGreatLaw18v
import Derived.Test.YtfkfmpfohaomhaaGreatT7
namespace Go.Proofs.YtfkfmpfohaomhaaGreat.correspondenceOne
open Go Go.RowKit Go.Nat9 Go.Fw Go.ChangeShapes Go.WideShapes Go.ChangeAt Go.Proofs.YtfkfmpfohaomhaaGreat

set_option maxRecDepth 100000 in
theorem lifted (os : Os) (started : os.Started) (H : Type) (enc : TypeId × Value → H) :
    ReturnsInHanded {} Tryz.checked os 5 .any (Rows.correspondenceOneSpec.pre6 enc Tryz.prog Tryz.f5 [] false) (Rows.correspondenceOneSpec.post enc Tryz.prog Tryz.f5 false true false false) := by
  refine returnsInHanded_of_change (C := Tryz.checked) own started (by kernel_rfl) Tryz.func5
    (ChangeSpec.witness6 (enc := enc) (C := Tryz.checked) false ⟨#[], #[.slice none 0 0, .slice none 0 0, .int .u8 0], []⟩ 8 (by kernel_rfl) (by kernel_rfl) (by kernel_rfl) (by kernel_rfl)) ?_
  intro W base args ds gs before hval0 hW _ _
  have hval : ∀ (j : Nat) t v, Tryz.f5.params[j]? = some t → args[j]? = some v → Value.okWide Tryz.prog W .any base t v := hval0
  have hW' := hW
  obtain ⟨p, q, hA0, hV, rfl, hfz, hnd⟩ := hW
  have hA : DataW.TrodAll enc Tryz.prog W 0 (fun _ => true) true Tryz.f5.params.toList args.toList ds p := hA0
  have hAk := hA
  rw [Tryz.params5] at hA hval
  obtain ⟨v0, vs0, d0, ds0, p0, q0, hargs, rfl, rfl, h0, t0⟩ := trodAll_cons hA
  obtain ⟨v1, vs1, d1, ds1, p1, q1, rfl, rfl, rfl, h1, t1⟩ := trodAll_cons t0
  obtain ⟨v2, vs2, d2, ds2, p2, q2, rfl, rfl, rfl, h2, t2⟩ := trodAll_cons t1
  obtain ⟨rfl, rfl, rfl⟩ := trodAll_nil t2
  obtain rfl : args = #[v0, v1, v2] := by cases args; simp_all
  obtain ⟨rfl, rfl⟩ := trodVars_none hV
  obtain ⟨ad1, c1, l1, rfl, q1, g0⟩ := open_spcV (hval 0 22 v0 rfl rfl) h0
  obtain ⟨ad2, c2, l2, rfl, q2, g1⟩ := open_spcV (hval 1 22 v1 rfl rfl) h1
  obtain ⟨b2, rfl, hb2⟩ := open_u8 (hval 2 5 v2 rfl rfl) h2
  refine ((Go.Fw.K.correspondenceOne_con q1 q2 hb2) W (holds_append g0 g1)).mono ?_
  rintro e W' ⟨v, φo, rfl, ⟨rfl, rfl⟩, hb, _⟩
  refine ⟨_, rfl, post_of_below (pv := []) hW' ?_ (trodAll_below laidOut hb (by kernel_rfl) hAk (fun x hx => by simpa using hW'.lt x (by simpa using hx))) rfl hb⟩
  intro b sp hd
  exact trodAll_mk1 (shut_bool Tryz.underlying4 true)

theorem holds : Rows.CorrespondenceOneSaid :=
  OpenClaim.holds_of_wide 5 Tryz.f5 rfl rfl rfl rfl rfl rfl rfl ⟨rfl, rfl, rfl, rfl, rfl⟩ rfl rfl rfl rfl rfl (by kernel_rfl) Tryz.func5 (by kernel_rfl)
    (of_decide_eq_true (by kernel_rfl)) (by unfold Func.isWrapper; first | (rw [if_pos (by decide +kernel)]; kernel_rfl) | (rw [if_neg (by decide +kernel)]; exact ⟨rfl, rfl⟩))
    (fun os started H enc _ => lifted os started H enc)
end Go.Proofs.YtfkfmpfohaomhaaGreat.correspondenceOne
