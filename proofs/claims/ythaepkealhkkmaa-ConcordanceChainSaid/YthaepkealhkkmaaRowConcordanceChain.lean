/-
  PROVED: 'coinagelaw48.ConcordanceChain' answers true whatever the input, and each argument reads afterwards as it read before.
-/
import Derived.Test.YthaepkealhkkmaaLaw40
import Derived.Test.YthaepkealhkkmaaLaw48
import Derived.Test.YthaepkealhkkmaaT7
namespace Go.Proofs.Ythaepkealhkkmaa.concordanceChain
open Go Go.RowKit Go.Nat9 Go.Fw Go.ChangeShapes Go.WideShapes Go.ChangeAt Go.Proofs.Ythaepkealhkkmaa

set_option maxRecDepth 100000 in
theorem lifted (os : Os) (started : os.Started) (H : Type) (enc : TypeId × Value → H) :
    ReturnsInHanded {} Try.checked os 9 .any (Rows.concordanceChainSpec.pre6 enc Try.prog Try.f9 [] false) (Rows.concordanceChainSpec.post enc Try.prog Try.f9 false true false false) := by
  refine returnsInHanded_of_change (C := Try.checked) own started (by kernel_rfl) Try.func9
    (ChangeSpec.witness6 (enc := enc) (C := Try.checked) false ⟨#[], #[.agg #[.slice none 0 0, .slice none 0 0], .agg #[.slice none 0 0, .slice none 0 0], .agg #[.slice none 0 0, .slice none 0 0]], []⟩ 8 (by kernel_rfl) (by kernel_rfl) (by kernel_rfl) (by kernel_rfl)) ?_
  intro W base args ds gs before hval0 hW _ _
  have hval : ∀ (j : Nat) t v, Try.f9.params[j]? = some t → args[j]? = some v → Value.okWide Try.prog W .any base t v := hval0
  have hW' := hW
  obtain ⟨p, q, hA0, hV, rfl, hfz, hnd⟩ := hW
  have hA : DataW.TrodAll enc Try.prog W 0 (fun _ => true) true Try.f9.params.toList args.toList ds p := hA0
  have hAk := hA
  rw [Try.params9] at hA hval
  obtain ⟨v0, vs0, d0, ds0, p0, q0, hargs, rfl, rfl, h0, t0⟩ := trodAll_cons hA
  obtain ⟨v1, vs1, d1, ds1, p1, q1, rfl, rfl, rfl, h1, t1⟩ := trodAll_cons t0
  obtain ⟨v2, vs2, d2, ds2, p2, q2, rfl, rfl, rfl, h2, t2⟩ := trodAll_cons t1
  obtain ⟨rfl, rfl, rfl⟩ := trodAll_nil t2
  obtain rfl : args = #[v0, v1, v2] := by cases args; simp_all
  obtain ⟨rfl, rfl⟩ := trodVars_none hV
  obtain ⟨ad1a, c1a, E1, ad1b, c1b, R1, rfl, g0⟩ := open_edV (hval 0 41 v0 rfl rfl) h0
  obtain ⟨ad2a, c2a, E2, ad2b, c2b, R2, rfl, g1⟩ := open_edV (hval 1 41 v1 rfl rfl) h1
  obtain ⟨ad3a, c3a, E3, ad3b, c3b, R3, rfl, g2⟩ := open_edV (hval 2 41 v2 rfl rfl) h2
  refine ((Go.Fw.K.concordanceChain_con ) W (holds_append g0 (holds_append g1 g2))).mono ?_
  rintro e W' ⟨v, φo, rfl, ⟨rfl, rfl⟩, hb, _⟩
  refine ⟨_, rfl, post_of_below (pv := []) hW' ?_ (trodAll_below laidOut hb (by kernel_rfl) hAk (fun x hx => by simpa using hW'.lt x (by simpa using hx))) rfl hb⟩
  intro b sp hd
  exact trodAll_mk1 (shut_bool Try.underlying4 true)

theorem holds : Rows.ConcordanceChainSaid :=
  OpenClaim.holds_of_wide 9 Try.f9 rfl rfl rfl rfl rfl rfl rfl ⟨rfl, rfl, rfl, rfl, rfl⟩ rfl rfl rfl rfl rfl (by kernel_rfl) Try.func9 (by kernel_rfl)
    (of_decide_eq_true (by kernel_rfl)) (by unfold Func.isWrapper; first | (rw [if_pos (by decide +kernel)]; kernel_rfl) | (rw [if_neg (by decide +kernel)]; exact ⟨rfl, rfl⟩))
    (fun os started H enc _ => lifted os started H enc)
end Go.Proofs.Ythaepkealhkkmaa.concordanceChain
