/- Walks through functions of the given program: each meets its contract. (Printed by a program of this repo.) -/
import Derived.Test.YtfkfmpfohaomhaaGreatK13
import Derived.Test.YtfkfmpfohaomhaaGreatKC
import Derived.Test.YtfkfmpfohaomhaaGreatK23
import Derived.Test.YtfkfmpfohaomhaaGreatK24
import Derived.Test.YtfkfmpfohaomhaaGreatF
import Derived.Test.YtfkfmpfohaomhaaGreatCoQ
import Derived.Test.YtfkfmpfohaomhaaGreatProg
namespace Go.Fw.T7
open Go Go.RowKit Go.Proofs Go.Nat9 Go.Fw
attribute [local irreducible] JC JL JE
theorem ca11 : callable Tryz.prog 11 = true := by kernel_rfl
theorem ca12 : callable Tryz.prog 12 = true := by kernel_rfl
theorem ca15 : callable Tryz.prog 15 = true := by kernel_rfl
theorem ca16 : callable Tryz.prog 16 = true := by kernel_rfl
theorem ca17 : callable Tryz.prog 17 = true := by kernel_rfl
theorem ca18 : callable Tryz.prog 18 = true := by kernel_rfl
theorem ca19 : callable Tryz.prog 19 = true := by kernel_rfl
theorem ca6 : callable Tryz.prog 6 = true := by kernel_rfl
theorem ca7 : callable Tryz.prog 7 = true := by kernel_rfl
theorem ca8 : callable Tryz.prog 8 = true := by kernel_rfl
theorem it3 : intTy Tryz.prog 3 = some .i64 := by kernel_rfl
theorem mixed : Tryz.prog.follows .mixedOrders = true := by kernel_rfl
theorem sl36 : slOf Tryz.prog 36 = some (3, 1, 8, [.int .i64 0]) := by kernel_rfl
theorem ty29 : tyOf Tryz.prog 29 = some (true, 3) := by kernel_rfl
theorem ub4 : Tryz.prog.underlying 4 = some .bool := by kernel_rfl
theorem us5 : (Tryz.prog.underlying 5).isSome = true := by kernel_rfl
theorem z29 : zeroOf Tryz.prog 29 = some [.bool false, .slice none 0 0, .slice none 0 0] := by kernel_rfl
end Go.Fw.T7
namespace Go.Fw.K
open Go Go.RowKit Go.Proofs Go.Nat9 Go.Fw Go.Fw.T7
attribute [local irreducible] JC JL JE

set_option maxHeartbeats 8000000 in
set_option maxRecDepth 20000 in
theorem correspondenceOne_con {ad1 ad2 : Option Addr} {c1 c2 : Nat} {a b : List Spc} (hc1 : a.length ≤ c1 ∧ c1 ≤ 9223372036854775807) (hc2 : b.length ≤ c2 ∧ c2 ≤ 9223372036854775807) {s : Nat} (hs : s < 256) :
    ConF Tryz.prog 5 [.slice ad1 a.length c1, .slice ad2 b.length c2, .int .u8 ((s : Nat) : Int)] [vCells ad1 (scells a), vCells ad2 (scells b)]
      (fun v φo => v = .bool true ∧ φo = []) := by
  have _ := hc1
  have _ := hc2
  refine ConF_of Tryz.func5 rfl 158 _ rfl rfl ?_; intro w0; refine JC_norm ⟨158, [], [_, _, _, _, _, _, _, _, _, _, _, _, _, _, _, _, _, _, _, _, _, _, _, _, _, _, _, _, _, _, _, _, _, _, _, _, _, _, _, _, _, _, _, _, _, _, _, _, _, _, _, _, _, _, _, _, _, _, _, _, _, _, _, _, _, _, _, _, _, _, _, _, _, _, _, _, _, _, _, _, _, _, _, _, _, _, _, _, _, _, _, _, _, _, _, _, _, _, _, _, _, _, _, _, _, _, _, _, _, _, _, _, _, _, _, _, _, _, _, _, _, _, _, _, _, _, _, _, _, _, _, _, _, _, _, _, _, _, _, _, _, _, _, _, _, _, _, _, _, _, _, _, _, _, _, _, _, _]⟩ [] [_, _] rfl rfl rfl ?_; refine JC_sr ?_; refine JL_assign rfl ?_; refine JL_du 158 [] [_, _] ?_; refine JC_seq ?_; refine JC_sr ?_; refine JL_callF' Asks.nil (awake18_con) rfl ca6 rfl ?_; rintro _ _ ⟨rfl, rfl⟩; refine JL_not rfl ?_; rw [Bool.not_true]; refine JL_m ?_; refine JL_gy ?_; refine JL_m ?_; refine JL_gy ?_; refine JL_callF' Asks.nil (few18_con (n := a.length)) rfl ca7 ⟨rfl, rfl⟩ ?_; rintro _ _ ⟨rfl, rfl⟩; refine JL_split (fun h25 => ?_) (fun h25 => ?_)
  · refine JL_gy ?_; refine JL_not rfl ?_; rw [Bool.not_true]; refine JL_pick_f rfl rfl ?_; refine JL_m ?_; refine JL_gy ?_; refine JL_m ?_; refine JL_gy ?_; refine JL_callF' Asks.nil (few18_con (n := b.length)) rfl ca7 ⟨rfl, rfl⟩ ?_; rintro _ _ ⟨rfl, rfl⟩; refine JL_split (fun h30 => ?_) (fun h30 => ?_)
    · refine JL_gy ?_; refine JL_not rfl ?_; rw [Bool.not_true]; refine JL_pick_f rfl rfl ?_; refine JL_du 158 [] [_, _] ?_; refine JC_false rfl ?_; refine JC_skip ?_; refine JE_then ?_; refine JC_seq ?_
      have hla := fewN_le h25
      have hlb := fewN_le h30
      have hna : a.length ≤ 1000000 := by omega
      have hnb : b.length ≤ 1000000 := by omega
      have hka : a.length ≤ 1000 := by omega
      have hkb : b.length ≤ 1000 := by omega
      refine JC_region ?_; refine JL_m ?_; refine JL_convInt us5 it3 rfl (IntWalk.i64_in _ (by omega)) ?_; refine JL_rem_to rfl rfl (by omega) (IntWalk.rem_in _ _ (by omega)) ?_; generalize hsd : ((s : Nat) : Int) % 2 = sd
      have hsd2 : sd = 0 ∨ sd = 1 := by omega
      have hpc : errP a b sd = errC a b := errP_two hsd2
      refine JL_assign rfl ?_; refine JL_du 158 [] [_, _] ?_; refine JC_sr ?_; refine JL_m ?_; refine JL_m ?_; refine JL_callF' (Asks.cons (holds_of_mem am) (Asks.cons (holds_of_mem am) Asks.nil)) (com_con (a := a) (b := b) hna hnb) rfl ca12 ⟨rfl, rfl, rfl⟩ ?_; rintro _ _ ⟨ad40, c40, rfl, hc40, rfl⟩; refine JL_m ?_; refine JL_extract rfl rfl ?_; refine JL_extract rfl rfl ?_; refine JL_assign rfl ?_; refine JL_assign rfl ?_; refine JL_du 158 [] [_, _, _] ?_; refine JC_sr ?_; refine JL_m ?_; refine JL_m ?_; refine JL_m ?_; refine JL_callF' (Asks.cons (holds_of_mem am) (Asks.cons (holds_of_mem am) Asks.nil)) (spl_con (a := a) (b := b) (side := sd) hna hnb) rfl ca15 ⟨rfl, rfl, rfl, rfl⟩ ?_; rintro _ _ ⟨ad47, c47, rfl, hc47, rfl⟩; rw [hpc]; refine JL_m ?_; refine JL_extract rfl rfl ?_; refine JL_extract rfl rfl ?_; refine JL_assign rfl ?_; refine JL_assign rfl ?_; refine JL_du 158 [] [_, _, _, _] ?_; refine JC_sr ?_; refine JL_m ?_; refine JL_m ?_; refine JL_m ?_
      refine JL_callF' (Asks.cons (holds_of_mem am) (Asks.cons (holds_of_mem am) Asks.nil)) (lmp_con (a := a) (b := b) (side := sd) hna hnb) rfl ca16 ⟨rfl, rfl, rfl, rfl⟩ ?_; rintro _ _ ⟨ad54, c54, rfl, hc54, rfl⟩; rw [errL_eq, hpc]; refine JL_m ?_; refine JL_extract rfl rfl ?_; refine JL_extract rfl rfl ?_; refine JL_assign rfl ?_; refine JL_assign rfl ?_; refine JL_du 158 [] [_, _, _, _, _] ?_; refine JC_seq ?_; refine JC_sr ?_; refine JL_m ?_; refine JL_neq rfl rfl ?_; refine JL_split (fun h58 => ?_) (fun h58 => ?_)
      · refine JL_m ?_; refine JL_gn ?_; refine JL_gn ?_; refine JL_pick_t rfl rfl ?_; refine JL_m ?_; refine JL_gn ?_; refine JL_gn ?_; refine JL_pick_t rfl rfl ?_; refine JL_du 158 [] [_, _, _, _, _] ?_; refine JC_true rfl ?_; refine JC_seq ?_
        have hea := errS_le a
        have heb := errS_le b
        refine JC_region ?_; refine JL_m ?_; refine JL_m ?_; refine JL_eql rfl rfl ?_; rw [decide_eq_true rfl]; refine JL_m ?_; refine JL_gy ?_; refine JL_m ?_; refine JL_gy ?_; refine JL_m ?_; refine JL_gy ?_; refine JL_eql rfl rfl ?_; rw [decide_eq_true rfl]; refine JL_pick_t rfl rfl ?_; refine JL_m ?_; refine JL_gy ?_; refine JL_m ?_; refine JL_gy ?_; refine JL_callF' (Asks.cons (holds_of_mem am) Asks.nil) (bcheck_con (l := a) hna) rfl ca11 ⟨rfl, rfl⟩ ?_; rintro _ _ ⟨rfl, rfl⟩; refine JL_gy ?_; refine JL_m ?_; refine JL_gy ?_; refine JL_callF' (Asks.cons (holds_of_mem am) Asks.nil) (bcheck_con (l := b) hnb) rfl ca11 ⟨rfl, rfl⟩ ?_; rintro _ _ ⟨rfl, rfl⟩; refine JL_gy ?_; refine JL_add_to rfl rfl (IntWalk.i64_in _ (by omega)) ?_; refine JL_gy ?_; refine JL_neq rfl rfl ?_; rw [decide_eq_true (p := errS a + errS b ≠ 0) (err_sum h58)]; refine JL_pick_t rfl rfl ?_; refine JL_assign rfl ?_; refine JL_du 158 [] [_, _, _, _, _] ?_; refine JC_ret ?_; refine JE_then_ret ?_; refine JE_ret (vs := [_]) [] Tryz.results5 ⟨rfl, rfl⟩ ?_ ?_
        · exact ⟨rfl, rfl⟩
        · exact all_nil
      · refine JL_m ?_; refine JL_gy ?_; refine JL_m ?_; refine JL_gy ?_; refine JL_neq rfl rfl ?_; rw [decide_eq_false (p := errC a b ≠ 0) h58]; refine JL_pick_f rfl rfl ?_; refine JL_m ?_; refine JL_gy ?_; refine JL_m ?_; refine JL_gy ?_; refine JL_neq rfl rfl ?_; rw [decide_eq_false (p := errC a b ≠ 0) h58]; refine JL_pick_f rfl rfl ?_; refine JL_du 158 [] [_, _, _, _, _] ?_; refine JC_false rfl ?_; refine JC_skip ?_; refine JE_then ?_; refine JC_seq ?_
        refine JC_cutT ((Bool)) (fun (cl : Bool) => cl = clnB a b sd) (fun u (cl : Bool) => [none, none, none, none, none, none, none, none, none, none, none, none, none, none, some (.bool cl), none, none, none, none, none, none, none, none, none, none, none, none, none, none, none, none, none, none, none, none, none, none, none, none, none, none, none, none, none, none, none, none, none, none, none, none, none, none, none, none, none, none, none, none, none, none, none, none, none, none, none, none, none, none, none, none, none, none, none, none, none, none, none, none, none, none, none, none, some (u 83), some (u 84), some (u 85), some (u 86), some (u 87), some (u 88), some (u 89), some (u 90), none, none, none, none, none, none, none, none, none, none, none, none, none, none, none, none, none, none, none, none, none, none, none, none, none, none, none, none, none, none, none, none, none, none, none, none, none, none, none, none, none, none, none, none, none, none, none, none, none, none, none, none, none, none, none, none, none, none, none, none, none, none, none, none, none, none, none]) (fun (cl : Bool) => []) (fun (cl : Bool) => []) ?_ ?_
        · refine JC_region ?_; refine JL_m ?_; refine JL_len sl36 rfl ?_; refine JL_eql rfl rfl ?_; refine JL_split (fun h85 => ?_) (fun h85 => ?_)
          · refine JL_m ?_; refine JL_gy ?_; refine JL_m ?_; refine JL_gy ?_; refine JL_len sl36 rfl ?_; refine JL_gy ?_; refine JL_eql rfl rfl ?_; refine JL_split (fun h89 => ?_) (fun h89 => ?_)
            · refine JL_pick_t rfl rfl ?_; refine JL_assign rfl ?_; refine JL_nu 158 [] [_, _, _, _, _] ?_; refine JE_midS (true) (by kernel_rfl) ?_ (by kernel_rfl) ?_
              · exact cln_len h85 h89
              · exact subset_app subset_nil ss0
            · refine JL_pick_t rfl rfl ?_; refine JL_assign rfl ?_; refine JL_nu 158 [] [_, _, _, _, _] ?_; refine JE_midS (false) (by kernel_rfl) ?_ (by kernel_rfl) ?_
              · exact cln_no2 h89
              · exact subset_app subset_nil ss0
          · refine JL_m ?_; refine JL_gn ?_; refine JL_gn ?_; refine JL_gn ?_; refine JL_pick_f rfl rfl ?_; refine JL_assign rfl ?_; refine JL_nu 158 [] [_, _, _, _, _] ?_; refine JE_midS (false) (by kernel_rfl) ?_ (by kernel_rfl) ?_
            · exact cln_no1 h85
            · exact subset_app subset_nil ss0
        intro u cl hcl; refine JC_nm 158 [] [_, _, _, _, _] ?_; refine JC_seq ?_
        have hpe : errP a b sd = 0 := hpc.trans (Classical.not_not.1 h58)
        have hpl := prs_com hpe
        refine JC_region ?_; refine JL_m ?_; refine JL_m ?_; refine JL_m ?_; refine JL_callF' (Asks.cons (holds_of_mem am) (Asks.cons (holds_of_mem am) Asks.nil)) (best_con (a := a) (b := b) (side := sd) hna hnb) rfl ca17 ⟨rfl, rfl, rfl, rfl⟩ ?_; rintro _ _ ⟨ad95, c95, rfl, rfl⟩; refine JL_m ?_; refine JL_extract rfl rfl ?_; refine JL_extract rfl rfl ?_; refine JL_extract rfl rfl ?_; refine JL_assign rfl ?_; refine JL_assign rfl ?_; refine JL_assign rfl ?_; refine JL_du 158 [] [_, _, _, _, _, _] ?_; refine JC_seq ?_; refine JC_sr ?_; refine JL_m ?_; refine JL_eql rfl rfl ?_; refine JL_split (fun h100 => ?_) (fun h100 => ?_)
        · refine JL_m ?_; refine JL_gy ?_; refine JL_m ?_; refine JL_gy ?_; refine JL_m ?_; refine JL_gy ?_; refine JL_len sl36 rfl ?_; refine JL_gy ?_; refine JL_gtr rfl rfl ?_; refine JL_split (fun h105 => ?_) (fun h105 => ?_)
          · exfalso; have h1 := (bst_len_iff hpe h100).1; omega
          · refine JL_gy ?_; refine JL_m ?_; refine JL_gy ?_; refine JL_m ?_; refine JL_gy ?_; refine JL_m ?_; refine JL_gy ?_; refine JL_len sl36 rfl ?_; refine JL_gy ?_; refine JL_eql rfl rfl ?_; refine JL_gy ?_; refine JL_m ?_; refine JL_gy ?_; refine JL_neqB ub4 rfl rfl ?_; refine JL_splitNeB (fun h112 => ?_) (fun h112 => ?_)
            · exact absurd (by rw [hcl]; exact dec_eq_bool (bst_len_iff hpe h100).2) h112
            · refine JL_gy ?_; refine JL_pick_f rfl rfl ?_; refine JL_pick_t rfl rfl ?_; refine JL_du 158 [] [_, _, _, _, _, _] ?_; refine JC_false rfl ?_; refine JC_skip ?_; refine JE_then ?_; refine JC_sr ?_; refine JL_m ?_; refine JL_m ?_; refine JL_m ?_; refine JL_callF' (Asks.cons (holds_of_mem am) (Asks.cons (holds_of_mem am) Asks.nil)) (agree_con (a := a) (b := b) (side := sd) hka hkb) rfl ca8 ⟨rfl, rfl, rfl, rfl⟩ ?_; rintro _ _ ⟨ad119, cp119, be119, ce119, rfl, rfl⟩; refine JL_m ?_; refine JL_extract rfl rfl ?_; refine JL_extract rfl rfl ?_; refine JL_alloc z29 (fun b18 => ?_); refine JL_store (vs := [_, _, _]) 0 ty29 rfl rfl rfl (AllOne.cons rfl (AllOne.cons rfl (AllOne.cons rfl AllOne.nil))) rfl (Nat.le_of_ble_eq_true rfl) ?_; refine JL_assign rfl ?_; refine JL_du 158 [box _ _ [_, _, _]] [_, _, _, _, _, _, _, _] ?_; refine JC_seq ?_; refine JC_sr ?_; refine JL_m ?_; refine JL_len sl36 rfl ?_; refine JL_lss rfl rfl ?_; refine JL_split (fun h124 => ?_) (fun h124 => ?_)
              · refine JL_du 158 [box _ _ [_, _, _]] [_, _, _, _, _, _, _, _] ?_; refine JC_true rfl ?_; refine JC_seq ?_
                have hclt : cl = true := hcl.trans (cln_small hpe (by omega))
                subst hclt; refine JC_region ?_; refine JL_m ?_; refine JL_eql rfl rfl ?_; rw [decide_eq_true (p := errG a b sd = 7) (errG_7 (fun h => h hpe) (by omega))]; refine JL_m ?_; refine JL_gy ?_; refine JL_m ?_; refine JL_gy ?_; refine JL_m ?_; refine JL_gn ?_; refine JL_gn ?_; refine JL_gn ?_; refine JL_gy ?_; refine JL_pick_t rfl rfl ?_; refine JL_pick_t rfl rfl ?_; refine JL_assign rfl ?_; refine JL_du 158 [box _ _ [_, _, _]] [_, _, _, _, _, _, _, _] ?_; refine JC_ret ?_; refine JE_then_ret ?_; refine JE_ret (vs := [_]) [] Tryz.results5 ⟨rfl, rfl⟩ ?_ ?_
                · exact ⟨rfl, rfl⟩
                · exact all_nil
              · refine JL_du 158 [box _ _ [_, _, _]] [_, _, _, _, _, _, _, _] ?_; refine JC_false rfl ?_; refine JC_skip ?_; refine JE_then ?_; refine JC_seq ?_
                have hl2 : ¬ (prsS a b sd).length < 2 := by omega
                have hcq := ag_cmp hpe hl2
                refine JC_drawT mixed 2 [spV 135 [] _, spC 136 [] _] ⟨OblS_V (fun vals ex ψ => (by refine JL_normQ _ (_ :: _ :: _ :: _ :: _ :: _ :: _ :: _ :: ψ) rfl rfl ?_; refine JL_loadA (vs := [_, _, _]) 0 ty29 rfl rfl ⟨rfl, rfl, rfl, trivial⟩ ?_; exact vz rfl)), OblS_C (fun vals ex ψ => (by refine JL_normQ ⟨158, [(135, _), (136, _)], _⟩ (_ :: _ :: _ :: _ :: _ :: _ :: _ :: _ :: ψ) rfl rfl ?_; refine JL_callF' Asks.nil (fofi_con 1 1 (by omega) (by omega)) rfl ca19 ⟨rfl, rfl, rfl⟩ ?_; exact fun v φo hP => JL_nil (JE_stepC φo rfl hP (fun p hp => mapB_l hp) (fun p hp => mapB_r (ss0 p hp))))), trivial⟩ (by kernel_rfl) (fun vals bs => ?_)
                refine JL_normL [_, _] ⟨158, [(135, _), (136, _)], _⟩ [box _ _ [_, _, _]] [_, _, _, _, _, _, _, _, _] rfl rfl rfl rfl ?_; generalize vals (0 + 1) = x136; refine JL_usePost mm0 (fun φo hP => ?_); obtain ⟨ad136, cp136, be136, ce136, rfl, rfl⟩ := hP; refine JL_norm _ [box _ _ [_, _, _]] [_, _, _, _, _, _, _, _, _, _, _] rfl rfl rfl ?_; refine JL_callF' (Asks.cons (holds_of_mem am) (Asks.cons (holds_of_mem am) (Asks.cons (holds_of_mem am) (Asks.cons (holds_of_mem am) Asks.nil)))) (fcmpq_con (FIn.of (o := agO a b sd) (qs_agS _ _ _ hka)) (FIn.some ((qs_ofq 1 1 (by decide) (by decide)).mono (by decide)))) rfl ca18 ⟨rfl, rfl, rfl⟩ ?_; rintro _ _ ⟨rfl, rfl⟩; refine JL_assign rfl ?_; refine JL_du 158 [box _ _ [_, _, _]] [_, _, _, _, _, _, _, _, _, _, _] ?_; refine JC_sr ?_; refine JL_m ?_; refine JL_eql rfl rfl ?_; rw [decide_eq_true (p := errG a b sd = 0) (errG_0 (fun h => h hpe) hl2)]; refine JL_m ?_; refine JL_gy ?_; refine JL_m ?_; refine JL_gy ?_; refine JL_leq rfl rfl ?_; rw [decide_eq_true (p := cmpQ (fval (agO a b sd)) (ofq 1 1) ≤ 0) hcq.1]; refine JL_pick_t rfl rfl ?_; refine JL_m ?_; refine JL_gy ?_
                refine JL_m ?_; refine JL_gy ?_; refine JL_eql rfl rfl ?_; refine JL_gy ?_; refine JL_m ?_; refine JL_gy ?_; refine JL_eqlB ub4 rfl rfl ?_; refine JL_splitEqB (fun h148 => ?_) (fun h148 => ?_)
                · refine JL_pick_t rfl rfl ?_; refine JL_m ?_; refine JL_gy ?_; refine JL_m ?_; refine JL_gy ?_; refine JL_eql rfl rfl ?_; refine JL_split (fun h152 => ?_) (fun h152 => ?_)
                  · refine JL_gy ?_; refine JL_m ?_; refine JL_gn ?_; refine JL_gn ?_; refine JL_gy ?_; refine JL_pick_t rfl rfl ?_; refine JL_pick_t rfl rfl ?_; refine JL_assign rfl ?_; refine JL_du 158 [box _ _ [_, _, _]] [_, _, _, _, _, _, _, _, _, _, _] ?_; refine JC_ret ?_; refine JE_ret (vs := [_]) [] Tryz.results5 ⟨rfl, rfl⟩ ?_ ?_
                    · exact ⟨rfl, rfl⟩
                    · exact all_nil
                  · refine JL_gy ?_; refine JL_m ?_; refine JL_gy ?_; refine JL_m ?_; refine JL_gy ?_; refine JL_eql rfl rfl ?_; refine JL_split (fun h155 => ?_) (fun h155 => ?_)
                    · refine JL_gy ?_; refine JL_pick_f rfl rfl ?_; refine JL_pick_t rfl rfl ?_; refine JL_assign rfl ?_; refine JL_du 158 [box _ _ [_, _, _]] [_, _, _, _, _, _, _, _, _, _, _] ?_; refine JC_ret ?_; refine JE_ret (vs := [_]) [] Tryz.results5 ⟨rfl, rfl⟩ ?_ ?_
                      · exact ⟨rfl, rfl⟩
                      · exact all_nil
                    · exact absurd (errB_06 hpe h152) h155
                · exact absurd (by rw [hcl]; exact dec_eq_bool hcq.2) h148
        · refine JL_m ?_; refine JL_gn ?_; refine JL_gn ?_; refine JL_gn ?_; refine JL_gn ?_; refine JL_gn ?_; refine JL_guard_un rfl rfl ?_; refine JL_guard_un rfl rfl ?_; refine JL_guard_un rfl rfl ?_; refine JL_guard_un rfl rfl ?_; refine JL_guard_un rfl rfl ?_; refine JL_guard_un rfl rfl ?_; refine JL_gn ?_; refine JL_pick_f rfl rfl ?_; refine JL_du 158 [] [_, _, _, _, _, _] ?_; refine JC_false rfl ?_; refine JC_skip ?_; refine JE_then ?_; refine JC_sr ?_; refine JL_m ?_; refine JL_m ?_; refine JL_m ?_; refine JL_callF' (Asks.cons (holds_of_mem am) (Asks.cons (holds_of_mem am) Asks.nil)) (agree_con (a := a) (b := b) (side := sd) hka hkb) rfl ca8 ⟨rfl, rfl, rfl, rfl⟩ ?_; rintro _ _ ⟨ad119, cp119, be119, ce119, rfl, rfl⟩; refine JL_m ?_; refine JL_extract rfl rfl ?_; refine JL_extract rfl rfl ?_; refine JL_alloc z29 (fun b18 => ?_); refine JL_store (vs := [_, _, _]) 0 ty29 rfl rfl rfl (AllOne.cons rfl (AllOne.cons rfl (AllOne.cons rfl AllOne.nil))) rfl (Nat.le_of_ble_eq_true rfl) ?_; refine JL_assign rfl ?_; refine JL_du 158 [box _ _ [_, _, _]] [_, _, _, _, _, _, _, _] ?_; refine JC_seq ?_; refine JC_seq ?_
          refine JC_region ?_; refine JL_m ?_; refine JL_len sl36 rfl ?_; refine JL_lss rfl rfl ?_; refine JL_split (fun h124 => ?_) (fun h124 => ?_)
          · refine JL_du 158 [box _ _ [_, _, _]] [_, _, _, _, _, _, _, _] ?_; refine JC_true rfl ?_; refine JC_seq ?_
            have hclt : cl = true := hcl.trans (cln_small hpe (by omega))
            subst hclt; refine JC_region ?_; refine JL_m ?_; refine JL_eql rfl rfl ?_; rw [decide_eq_true (p := errG a b sd = 7) (errG_7 (fun h => h hpe) (by omega))]; refine JL_m ?_; refine JL_gy ?_; refine JL_m ?_; refine JL_gy ?_; refine JL_m ?_; refine JL_gn ?_; refine JL_gn ?_; refine JL_gn ?_; refine JL_gy ?_; refine JL_pick_t rfl rfl ?_; refine JL_pick_t rfl rfl ?_; refine JL_assign rfl ?_; refine JL_du 158 [box _ _ [_, _, _]] [_, _, _, _, _, _, _, _] ?_; refine JC_ret ?_; refine JE_then_ret ?_; refine JE_ret (vs := [_]) [] Tryz.results5 ⟨rfl, rfl⟩ ?_ ?_
            · exact ⟨rfl, rfl⟩
            · exact all_nil
          · refine JL_du 158 [box _ _ [_, _, _]] [_, _, _, _, _, _, _, _] ?_; refine JC_false rfl ?_; refine JC_skip ?_; refine JE_then ?_; refine JC_seq ?_
            have hl2 : ¬ (prsS a b sd).length < 2 := by omega
            have hcq := ag_cmp hpe hl2
            refine JC_drawT mixed 2 [spV 135 [] _, spC 136 [] _] ⟨OblS_V (fun vals ex ψ => (by refine JL_normQ _ (_ :: _ :: _ :: _ :: _ :: _ :: _ :: _ :: ψ) rfl rfl ?_; refine JL_loadA (vs := [_, _, _]) 0 ty29 rfl rfl ⟨rfl, rfl, rfl, trivial⟩ ?_; exact vz rfl)), OblS_C (fun vals ex ψ => (by refine JL_normQ ⟨158, [(135, _), (136, _)], _⟩ (_ :: _ :: _ :: _ :: _ :: _ :: _ :: _ :: ψ) rfl rfl ?_; refine JL_callF' Asks.nil (fofi_con 1 1 (by omega) (by omega)) rfl ca19 ⟨rfl, rfl, rfl⟩ ?_; exact fun v φo hP => JL_nil (JE_stepC φo rfl hP (fun p hp => mapB_l hp) (fun p hp => mapB_r (ss0 p hp))))), trivial⟩ (by kernel_rfl) (fun vals bs => ?_)
            refine JL_normL [_, _] ⟨158, [(135, _), (136, _)], _⟩ [box _ _ [_, _, _]] [_, _, _, _, _, _, _, _, _] rfl rfl rfl rfl ?_; generalize vals (0 + 1) = x136; refine JL_usePost mm0 (fun φo hP => ?_); obtain ⟨ad136, cp136, be136, ce136, rfl, rfl⟩ := hP; refine JL_norm _ [box _ _ [_, _, _]] [_, _, _, _, _, _, _, _, _, _, _] rfl rfl rfl ?_; refine JL_callF' (Asks.cons (holds_of_mem am) (Asks.cons (holds_of_mem am) (Asks.cons (holds_of_mem am) (Asks.cons (holds_of_mem am) Asks.nil)))) (fcmpq_con (FIn.of (o := agO a b sd) (qs_agS _ _ _ hka)) (FIn.some ((qs_ofq 1 1 (by decide) (by decide)).mono (by decide)))) rfl ca18 ⟨rfl, rfl, rfl⟩ ?_; rintro _ _ ⟨rfl, rfl⟩; refine JL_assign rfl ?_; refine JL_du 158 [box _ _ [_, _, _]] [_, _, _, _, _, _, _, _, _, _, _] ?_; refine JC_sr ?_; refine JL_m ?_; refine JL_eql rfl rfl ?_; rw [decide_eq_true (p := errG a b sd = 0) (errG_0 (fun h => h hpe) hl2)]; refine JL_m ?_; refine JL_gy ?_; refine JL_m ?_; refine JL_gy ?_; refine JL_leq rfl rfl ?_; rw [decide_eq_true (p := cmpQ (fval (agO a b sd)) (ofq 1 1) ≤ 0) hcq.1]; refine JL_pick_t rfl rfl ?_; refine JL_m ?_; refine JL_gy ?_; refine JL_m ?_
            refine JL_gy ?_; refine JL_eql rfl rfl ?_; refine JL_gy ?_; refine JL_m ?_; refine JL_gy ?_; refine JL_eqlB ub4 rfl rfl ?_; refine JL_splitEqB (fun h148 => ?_) (fun h148 => ?_)
            · refine JL_pick_t rfl rfl ?_; refine JL_m ?_; refine JL_gy ?_; refine JL_m ?_; refine JL_gy ?_; refine JL_eql rfl rfl ?_; refine JL_split (fun h152 => ?_) (fun h152 => ?_)
              · refine JL_gy ?_; refine JL_m ?_; refine JL_gn ?_; refine JL_gn ?_; refine JL_gy ?_; refine JL_pick_t rfl rfl ?_; refine JL_pick_t rfl rfl ?_; refine JL_assign rfl ?_; refine JL_du 158 [box _ _ [_, _, _]] [_, _, _, _, _, _, _, _, _, _, _] ?_; refine JC_ret ?_; refine JE_ret (vs := [_]) [] Tryz.results5 ⟨rfl, rfl⟩ ?_ ?_
                · exact ⟨rfl, rfl⟩
                · exact all_nil
              · refine JL_gy ?_; refine JL_m ?_; refine JL_gy ?_; refine JL_m ?_; refine JL_gy ?_; refine JL_eql rfl rfl ?_; refine JL_split (fun h155 => ?_) (fun h155 => ?_)
                · refine JL_gy ?_; refine JL_pick_f rfl rfl ?_; refine JL_pick_t rfl rfl ?_; refine JL_assign rfl ?_; refine JL_du 158 [box _ _ [_, _, _]] [_, _, _, _, _, _, _, _, _, _, _] ?_; refine JC_ret ?_; refine JE_ret (vs := [_]) [] Tryz.results5 ⟨rfl, rfl⟩ ?_ ?_
                  · exact ⟨rfl, rfl⟩
                  · exact all_nil
                · exact absurd (errB_06 hpe h152) h155
            · exact absurd (by rw [hcl]; exact dec_eq_bool hcq.2) h148
    · refine JL_gy ?_; refine JL_not rfl ?_; rw [Bool.not_false]; refine JL_pick_f rfl rfl ?_; refine JL_du 158 [] [_, _] ?_; refine JC_true rfl ?_; refine JC_sr ?_; refine JL_callF' Asks.nil (awake18_con) rfl ca6 rfl ?_; rintro _ _ ⟨rfl, rfl⟩; refine JL_assign rfl ?_; refine JL_du 158 [] [_, _] ?_; refine JC_ret ?_; refine JE_then_ret ?_; refine JE_ret (vs := [_]) [] Tryz.results5 ⟨rfl, rfl⟩ ?_ ?_
      · exact ⟨rfl, rfl⟩
      · exact all_nil
  · refine JL_gy ?_; refine JL_not rfl ?_; rw [Bool.not_false]; refine JL_pick_f rfl rfl ?_; refine JL_m ?_; refine JL_gn ?_; refine JL_gn ?_; refine JL_gn ?_; refine JL_pick_t rfl rfl ?_; refine JL_du 158 [] [_, _] ?_; refine JC_true rfl ?_; refine JC_sr ?_; refine JL_callF' Asks.nil (awake18_con) rfl ca6 rfl ?_; rintro _ _ ⟨rfl, rfl⟩; refine JL_assign rfl ?_; refine JL_du 158 [] [_, _] ?_; refine JC_ret ?_; refine JE_then_ret ?_; refine JE_ret (vs := [_]) [] Tryz.results5 ⟨rfl, rfl⟩ ?_ ?_
    · exact ⟨rfl, rfl⟩
    · exact all_nil

end Go.Fw.K
