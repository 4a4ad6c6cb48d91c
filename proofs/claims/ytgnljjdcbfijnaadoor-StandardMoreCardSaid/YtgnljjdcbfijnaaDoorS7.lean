/- Walks through functions of the given program: each meets its contract. (Printed by a program of this repo.) -/
import Derived.Test.YtgnljjdcbfijnaaDoorS5
import Derived.Test.YtgnljjdcbfijnaaDoorS6
import Derived.Test.YtgnljjdcbfijnaaDoorX3
import Derived.Test.YtgnljjdcbfijnaaDoorFrT
import Derived.Test.YtgnljjdcbfijnaaDoorProg
namespace Go.Fw.S7
open Go Go.RowKit Go.Proofs Go.Nat9 Go.Fw
attribute [local irreducible] JC JL JE
theorem ca10 : callable Tryd.prog 10 = true := by kernel_rfl
theorem ca14 : callable Tryd.prog 14 = true := by kernel_rfl
theorem ca20 : callable Tryd.prog 20 = true := by kernel_rfl
theorem ca22 : callable Tryd.prog 22 = true := by kernel_rfl
theorem ca29 : callable Tryd.prog 29 = true := by kernel_rfl
theorem fo41_0 : fOf Tryd.prog 41 0 = some 0 := by kernel_rfl
theorem fo41_1 : fOf Tryd.prog 41 1 = some 3 := by kernel_rfl
theorem sl25 : slOf Tryd.prog 25 = some (41, 6, 112, [.bool false, .slice none 0 0, .slice none 0 0, .bool false, .slice none 0 0, .slice none 0 0]) := by kernel_rfl
theorem ty35 : tyOf Tryd.prog 35 = some (true, 3) := by kernel_rfl
theorem z35 : zeroOf Tryd.prog 35 = some [.bool false, .slice none 0 0, .slice none 0 0] := by kernel_rfl
end Go.Fw.S7
namespace Go.Fw.K
open Go Go.RowKit Go.Proofs Go.Nat9 Go.Fw Go.Fw.S7
attribute [local irreducible] JC JL JE

theorem dig1 : dig 1 = ⟨#[49]⟩ := by unfold dig; simp [Lib.decDigits]
theorem dig5 : dig 5 = ⟨#[53]⟩ := by unfold dig; simp [Lib.decDigits]
theorem dig45 : dig 45 = ⟨#[52, 53]⟩ := by unfold dig; simp [Lib.decDigits]
theorem dig110 : dig 110 = ⟨#[49, 49, 48]⟩ := by unfold dig; simp [Lib.decDigits]
theorem txt38 {s1 : Bool} {ad1 : Option Addr} {n1 c1 : Nat} {L1 : List Nat} {be1 : Option Addr} {m1 e1 : Nat} {M1 : List Nat} {q1 : Rat} (g1 : FIn s1 n1 L1 m1 M1 q1 90) (sg : Bool) (hsg : fneg (some q1) = sg) (hn0 : 0 < q1.num.natAbs) (hn : q1.num.natAbs < 1000000000) (hd : q1.den = 1) {s : ByteArray} (hs : (bif sg then ⟨#[45]⟩ ++ dig q1.num.natAbs else dig q1.num.natAbs) = s) : ConF Tryd.prog 29 [.agg #[.bool s1, .slice ad1 n1 c1, .slice be1 m1 e1]] [vCells ad1 (u32s L1), vCells be1 (u32s M1), vTab] (fun v φo => v = .string s ∧ φo = []) := by
  rw [← hs]
  exact ftextT_con g1 sg hsg hn0 hn (by rw [hd]; decide) true (by rw [hd, dig1]; exact beq_self_eq_true _)

set_option maxHeartbeats 1000000 in
theorem awake38_con  :
    ConF Tryd.prog 9 [] [vTab]
      (fun v φo => v = .bool true ∧ φo = []) := by
  refine ConF_of Tryd.func9 rfl 56 _ rfl rfl ?_
  intro w0
  refine JC_norm ⟨56, [], [_, _, _, _, _, _, _, _, _, _, _, _, _, _, _, _, _, _, _, _, _, _, _, _, _, _, _, _, _, _, _, _, _, _, _, _, _, _, _, _, _, _, _, _, _, _, _, _, _, _, _, _, _, _, _, _]⟩ [] [_] rfl rfl rfl ?_
  refine JC_seq ?_
  refine JC_region ?_
  refine JL_assign rfl ?_
  refine JL_done_up 56 [] [_] rfl rfl (by simp only [nrmF]; rfl) rfl rfl ?_
  refine JC_seq ?_
  refine JC_region ?_
  refine JL_callF' Asks.nil (ispans_con (w := 100) (tol := 10) (m := 2)) rfl ca10 ⟨rfl, rfl, rfl, rfl⟩ ?_
  rintro _ _ ⟨ad7, c7, l7, rfl, hl7, rfl⟩
  have hs7 : l7.map Se.qq = [(ofq 90 2, ofq 110 2), (ofq 90 1, ofq 110 1)] := by rw [hl7]; decide +kernel
  have hn7 : l7.length = 2 := by have := congrArg List.length hs7; simpa using this
  have hv0 : (l7.getD 0 dS).lo.q = ofq 90 2 := by have := qq_getD l7 0; rw [hs7] at this; exact (congrArg Prod.fst this).symm
  have hv1 : (l7.getD 1 dS).hi.q = ofq 110 1 := by have := qq_getD l7 1; rw [hs7] at this; exact (congrArg Prod.snd this).symm
  rw [show spE 100 10 2 = 0 from by decide +kernel]
  have hm5 : ofq (-5) 1 = ofq (-5) 1 := rfl
  refine JL_move rfl ?_
  refine JL_extract rfl rfl ?_
  refine JL_extract rfl rfl ?_
  refine JL_assign rfl ?_
  refine JL_assign rfl ?_
  refine JL_done_up 56 [] [_, _, _] rfl rfl (by simp only [nrmF]; rfl) rfl rfl ?_
  refine JC_seq ?_
  refine JC_region ?_
  refine JL_callF' Asks.nil (fofi_con 35 1 (by omega) (by omega)) rfl ca22 ⟨rfl, rfl, rfl⟩ ?_
  rintro _ _ ⟨ad11, cp11, be11, ce11, rfl, rfl⟩
  refine JL_callF' (Asks.cons (holds_of_mem (by repeat (first | with_reducible exact mm0 | refine mmS ?_))) (Asks.cons (holds_of_mem (by repeat (first | with_reducible exact mm0 | refine mmS ?_))) Asks.nil)) (imul_con (w := 100) (m := 24) (FIn.some (q := ofq 35 1) ((qs_ofi (by decide)).mono (by decide)))) rfl ca20 ⟨rfl, rfl, rfl, rfl⟩ ?_
  rintro _ _ ⟨ad12, cp12, be12, ce12, rfl, rfl⟩
  rw [show mulK 100 (ofq 35 1) 24 = 3 from by decide +kernel, show mulO 100 (ofq 35 1) 24 = some (ofq (-5) 1) from by decide +kernel, show mulE 100 (ofq 35 1) 24 = 0 from by decide +kernel]
  refine JL_move rfl ?_
  refine JL_extract rfl rfl ?_
  refine JL_extract rfl rfl ?_
  refine JL_extract rfl rfl ?_
  refine JL_alloc z35 (fun b4 => ?_)
  refine JL_assign rfl ?_
  refine JL_store (vs := [_, _, _]) 0 ty35 rfl rfl rfl (AllOne.cons rfl (AllOne.cons rfl (AllOne.cons rfl AllOne.nil))) rfl (Nat.le_of_ble_eq_true rfl) ?_
  refine JL_assign rfl ?_
  refine JL_done_up 56 [box _ _ [_, _, _]] [_, _, _, _, _, _, _] rfl rfl (by simp only [nrmF]; rfl) rfl rfl ?_
  refine JC_seq ?_
  refine JC_region ?_
  refine JL_move rfl ?_
  refine JL_eql rfl rfl ?_
  rw [decide_eq_true rfl]
  refine JL_move rfl ?_
  refine JL_guard_yes rfl rfl ?_
  refine JL_move rfl ?_
  refine JL_guard_yes rfl rfl ?_
  refine JL_len sl25 rfl ?_
  refine JL_guard_yes rfl rfl ?_
  refine JL_eql rfl rfl ?_
  rw [decide_eq_true (p := ((l7.length : Nat) : Int) = 2) (by omega)]
  refine JL_pick_t rfl rfl ?_
  refine JL_move rfl ?_
  refine JL_guard_yes rfl rfl ?_
  refine JL_move rfl ?_
  refine JL_guard_yes rfl rfl ?_
  refine JL_indexAddr 0 sl25 rfl rfl rfl (by omega) (by first | exact Reads.view (by repeat (first | with_reducible exact mm0 | refine mmS ?_))) (by rw [scells_length]; omega) ?_
  refine JL_guard_yes rfl rfl ?_
  refine JL_fieldAddrE fo41_0 rfl (by first | exact Reads.view (by repeat (first | with_reducible exact mm0 | refine mmS ?_))) (by rw [scells_length]; omega) ?_
  refine JL_guard_yes rfl rfl ?_
  refine JL_loadEA (vs := [_, _, _]) ty35 (Nat.zero_lt_succ _) rfl (by first | exact Reads.view (by repeat (first | with_reducible exact mm0 | refine mmS ?_))) (scells_loA (by omega)) ?_
  refine JL_sesGet (f := true) (l := l7) (l7.getD 0 dS) (by repeat (first | with_reducible exact mm0 | refine mmS ?_)) (se_mem (by omega)) ?_
  refine JL_guard_yes rfl rfl ?_
  refine JL_callF' (Asks.cons (holds_of_mem (by repeat (first | with_reducible exact mm0 | refine mmS ?_))) (Asks.cons (holds_of_mem (by repeat (first | with_reducible exact mm0 | refine mmS ?_))) (Asks.cons (holds_of_mem (by repeat (first | with_reducible exact mm0 | refine mmS ?_))) Asks.nil))) (txt38 (s := ⟨#[52, 53]⟩) (FIn.some (q := (l7.getD 0 dS).lo.q) (by rw [hv0]; exact qs.mono (qs_ofq _ _ (by decide) (by decide)) (by decide))) false (by rw [hv0]; decide +kernel) (by rw [hv0]; decide +kernel) (by rw [hv0]; decide +kernel) (by rw [hv0]; decide +kernel) (by rw [hv0, show (ofq 90 2).num.natAbs = 45 from by decide +kernel, dig45]; rfl)) rfl ca29 ⟨rfl, rfl⟩ ?_
  rintro _ _ ⟨rfl, rfl⟩
  refine JL_guard_yes rfl rfl ?_
  refine JL_eqlS rfl rfl ?_
  refine JL_splitV (fun h29 => ?_) (fun h29 => ?_)
  · refine JL_pick_t rfl rfl ?_
    refine JL_move rfl ?_
    refine JL_guard_yes rfl rfl ?_
    refine JL_move rfl ?_
    refine JL_guard_yes rfl rfl ?_
    refine JL_indexAddr 1 sl25 rfl rfl rfl (by omega) (by first | exact Reads.view (by repeat (first | with_reducible exact mm0 | refine mmS ?_))) (by rw [scells_length]; omega) ?_
    refine JL_guard_yes rfl rfl ?_
    refine JL_fieldAddrE fo41_1 rfl (by first | exact Reads.view (by repeat (first | with_reducible exact mm0 | refine mmS ?_))) (by rw [scells_length]; omega) ?_
    refine JL_guard_yes rfl rfl ?_
    refine JL_loadEA (vs := [_, _, _]) ty35 (Nat.zero_lt_succ _) rfl (by first | exact Reads.view (by repeat (first | with_reducible exact mm0 | refine mmS ?_))) (scells_hiA (by omega)) ?_
    refine JL_sesGet (f := true) (l := l7) (l7.getD 1 dS) (by repeat (first | with_reducible exact mm0 | refine mmS ?_)) (se_mem (by omega)) ?_
    refine JL_guard_yes rfl rfl ?_
    refine JL_callF' (Asks.cons (holds_of_mem (by repeat (first | with_reducible exact mm0 | refine mmS ?_))) (Asks.cons (holds_of_mem (by repeat (first | with_reducible exact mm0 | refine mmS ?_))) (Asks.cons (holds_of_mem (by repeat (first | with_reducible exact mm0 | refine mmS ?_))) Asks.nil))) (txt38 (s := ⟨#[49, 49, 48]⟩) (FIn.some (q := (l7.getD 1 dS).hi.q) (by rw [hv1]; exact qs.mono (qs_ofq _ _ (by decide) (by decide)) (by decide))) false (by rw [hv1]; decide +kernel) (by rw [hv1]; decide +kernel) (by rw [hv1]; decide +kernel) (by rw [hv1]; decide +kernel) (by rw [hv1, show (ofq 110 1).num.natAbs = 110 from by decide +kernel, dig110]; rfl)) rfl ca29 ⟨rfl, rfl⟩ ?_
    rintro _ _ ⟨rfl, rfl⟩
    refine JL_guard_yes rfl rfl ?_
    refine JL_eqlS rfl rfl ?_
    refine JL_splitV (fun h37 => ?_) (fun h37 => ?_)
    · refine JL_pick_t rfl rfl ?_
      refine JL_move rfl ?_
      refine JL_guard_yes rfl rfl ?_
      refine JL_move rfl ?_
      refine JL_guard_yes rfl rfl ?_
      refine JL_eql rfl rfl ?_
      rw [decide_eq_true rfl]
      refine JL_pick_t rfl rfl ?_
      refine JL_move rfl ?_
      refine JL_guard_yes rfl rfl ?_
      refine JL_loadA (vs := [_, _, _]) 0 ty35 rfl rfl ⟨rfl, rfl, rfl, trivial⟩ ?_
      refine JL_guard_yes rfl rfl ?_
      refine JL_callF' (Asks.cons (holds_of_mem (by repeat (first | with_reducible exact mm0 | refine mmS ?_))) (Asks.cons (holds_of_mem (by repeat (first | with_reducible exact mm0 | refine mmS ?_))) (Asks.cons (holds_of_mem (by repeat (first | with_reducible exact mm0 | refine mmS ?_))) Asks.nil))) (txt38 (s := ⟨#[45, 53]⟩) (FIn.some (q := ofq (-5) 1) (by rw [hm5]; exact qs.mono (qs_ofq _ _ (by decide) (by decide)) (by decide))) true (by rw [hm5]; decide +kernel) (by rw [hm5]; decide +kernel) (by rw [hm5]; decide +kernel) (by rw [hm5]; decide +kernel) (by rw [hm5, show (ofq (-5) 1).num.natAbs = 5 from by decide +kernel, dig5]; rfl)) rfl ca29 ⟨rfl, rfl⟩ ?_
      rintro _ _ ⟨rfl, rfl⟩
      refine JL_guard_yes rfl rfl ?_
      refine JL_eqlS rfl rfl ?_
      refine JL_splitV (fun h46 => ?_) (fun h46 => ?_)
      · refine JL_pick_t rfl rfl ?_
        refine JL_move rfl ?_
        refine JL_guard_yes rfl rfl ?_
        refine JL_move rfl ?_
        refine JL_guard_yes rfl rfl ?_
        refine JL_eql rfl rfl ?_
        rw [decide_eq_true rfl]
        refine JL_pick_t rfl rfl ?_
        refine JL_move rfl ?_
        refine JL_guard_yes rfl rfl ?_
        refine JL_callF' Asks.nil (fofi_con 50 1 (by omega) (by omega)) rfl ca22 ⟨rfl, rfl, rfl⟩ ?_
        rintro _ _ ⟨ad53, cp53, be53, ce53, rfl, rfl⟩
        refine JL_guard_yes rfl rfl ?_
        refine JL_callF' (Asks.cons (holds_of_mem (by repeat (first | with_reducible exact mm0 | refine mmS ?_))) (Asks.cons (holds_of_mem (by repeat (first | with_reducible exact mm0 | refine mmS ?_))) Asks.nil)) (ifits_con (w := 100) (tol := 0) (m := 2) (FIn.some (q := ofq 50 1) ((qs_ofi (by decide)).mono (by decide)))) rfl ca14 ⟨rfl, rfl, rfl, rfl, rfl⟩ ?_
        rintro _ _ ⟨rfl, rfl⟩
        rw [show fits38 100 (ofq 50 1) 0 2 = true from by decide +kernel]
        refine JL_pick_t rfl rfl ?_
        refine JL_assign rfl ?_
        refine JL_done_up 56 [box _ _ [_, _, _]] [_, _, _, _, _, _, _, _, _, _, _, _, _, _, _, _, _] rfl rfl (by simp only [nrmF]; rfl) rfl rfl ?_
        refine JC_ret ?_
        refine JE_ret (vs := [_]) [] Tryd.results9 ⟨rfl, rfl⟩ ?_ ?_
        · exact ⟨rfl, rfl⟩
        · exact all_nil
      · simp at h46
    · simp at h37
  · simp at h29

end Go.Fw.K
