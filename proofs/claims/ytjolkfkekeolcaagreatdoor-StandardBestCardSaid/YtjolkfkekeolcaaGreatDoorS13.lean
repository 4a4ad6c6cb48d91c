/- Walks through functions of the given program: each meets its contract. (Printed by a program of this repo.) -/
import Derived.Test.YtjolkfkekeolcaaGreatDoorS12
import Derived.Test.YtjolkfkekeolcaaGreatDoorStdH
import Derived.Test.YtjolkfkekeolcaaGreatDoorProg
namespace Go.Fw.S13
open Go Go.RowKit Go.Proofs Go.Nat9 Go.Fw
attribute [local irreducible] JC JL JE
theorem ca10 : callable Tryz.prog 10 = true := by kernel_rfl
theorem ca12 : callable Tryz.prog 12 = true := by kernel_rfl
theorem ca34 : callable Tryz.prog 34 = true := by kernel_rfl
theorem ca35 : callable Tryz.prog 35 = true := by kernel_rfl
theorem ca36 : callable Tryz.prog 36 = true := by kernel_rfl
theorem ca38 : callable Tryz.prog 38 = true := by kernel_rfl
theorem ca40 : callable Tryz.prog 40 = true := by kernel_rfl
theorem ca41 : callable Tryz.prog 41 = true := by kernel_rfl
theorem ca46 : callable Tryz.prog 46 = true := by kernel_rfl
theorem mixed : Tryz.prog.follows .mixedOrders = true := by kernel_rfl
theorem sl37 : slOf Tryz.prog 37 = some (3, 1, 8, [.int .i64 0]) := by kernel_rfl
theorem st26 : stOf Tryz.prog 26 = some ([(0, 1), (1, 1), (2, 1)], [.bool false, .slice none 0 0, .slice none 0 0]) := by kernel_rfl
theorem ty26 : tyOf Tryz.prog 26 = some (true, 3) := by kernel_rfl
theorem ty3 : tyOf Tryz.prog 3 = some (false, 1) := by kernel_rfl
theorem z26 : zeroOf Tryz.prog 26 = some [.bool false, .slice none 0 0, .slice none 0 0] := by kernel_rfl
end Go.Fw.S13
namespace Go.Fw.K
open Go Go.RowKit Go.Proofs Go.Nat9 Go.Fw Go.Fw.S13
attribute [local irreducible] JC JL JE

theorem rcheck_con {ad : Option Addr} {c : Nat} {L : List Int} :
    ConF Tryz.prog 46 [.slice ad L.length c] [vCells ad (i64s L)]
      (fun v φo => v = .int .i64 (chkE L) ∧ φo = []) := by
  refine ConF_of Tryz.func46 rfl 19 _ rfl rfl ?_
  intro w0
  refine JC_norm ⟨19, [], [_, _, _, _, _, _, _, _, _, _, _, _, _, _, _, _, _, _, _]⟩ [] [_] rfl rfl rfl ?_
  refine JC_seq ?_
  refine JC_region ?_
  refine JL_assign rfl ?_
  refine JL_done_up 19 [] [_] rfl rfl (by simp only [nrmF]; rfl) rfl rfl ?_
  refine JC_seq ?_
  refine JC_seq ?_
  refine JC_region ?_
  refine JL_move rfl ?_
  refine JL_len sl37 rfl ?_
  refine JL_gtr rfl rfl ?_
  refine JL_split (fun h6 => ?_) (fun h6 => ?_)
  · refine JL_done_up 19 [] [_] rfl rfl (by simp only [nrmF]; rfl) rfl rfl ?_
    refine JC_true rfl ?_
    refine JC_seq ?_
    refine JC_region ?_
    refine JL_assign rfl ?_
    refine JL_done_up 19 [] [_] rfl rfl (by simp only [nrmF]; rfl) rfl rfl ?_
    refine JC_ret ?_
    refine JE_then_ret ?_
    refine JE_ret (vs := [_]) [] Tryz.results46 ⟨rfl, rfl⟩ ?_ ?_
    · rw [chkE_long (by omega)]; exact ⟨rfl, rfl⟩
    · exact all_nil
  · refine JL_done_up 19 [] [_] rfl rfl (by simp only [nrmF]; rfl) rfl rfl ?_
    refine JC_false rfl ?_
    refine JC_skip ?_
    refine JE_then ?_
    refine JC_seq ?_
    refine JC_seq ?_
    refine JC_region ?_
    refine JL_assign rfl ?_
    refine JL_done_up 19 [] [_] rfl rfl (by simp only [nrmF]; rfl) rfl rfl ?_
    refine JC_block ?_
    refine JC_loopS ((Nat)) (fun (k : Nat) => k ≤ L.length ∧ ∀ j, j < k → wOk (L.getD j 0)) (fun (k : Nat) => L.length - k) (fun u (k : Nat) => [none, none, some (u 2), some (.int .i64 (k : Nat)), none, none, none, some (u 7), some (u 8), some (u 9), some (u 10), some (u 11), some (u 12), some (u 13), some (u 14), some (u 15), some (u 16), some (u 17), some (u 18)]) (fun (k : Nat) => []) (fun (k : Nat) => []) (0) (by kernel_rfl) ?_ (by kernel_rfl) ?_ ?_
    · exact ⟨Nat.zero_le _, fun j hj => absurd hj (Nat.not_lt_zero _)⟩
    · exact subset_nil
    intro u k hC
    obtain ⟨hk, hok⟩ := hC
    refine JC_norm ⟨19, [], [_, _, _, _, _, _, _, _, _, _, _, _, _, _, _, _, _, _, _]⟩ [] [_] rfl rfl rfl ?_
    refine JC_seq ?_
    refine JC_seq ?_
    refine JC_region ?_
    refine JL_move rfl ?_
    refine JL_move rfl ?_
    refine JL_len sl37 rfl ?_
    refine JL_lss rfl rfl ?_
    refine JL_split (fun h10 => ?_) (fun h10 => ?_)
    · refine JL_done_up 19 [] [_] rfl rfl (by simp only [nrmF]; rfl) rfl rfl ?_
      refine JC_true rfl ?_
      refine JC_skip ?_
      refine JE_then ?_
      refine JC_seq ?_
      refine JC_block ?_
      refine JC_seq ?_
      refine JC_region ?_
      refine JL_move rfl ?_
      refine JL_move rfl ?_
      refine JL_idx k sl37 rfl rfl rfl (by omega) (by first | exact Reads.view (by repeat (first | with_reducible exact mm0 | refine mmS ?_))) (by first | (rw [u32s_length]; omega) | (rw [i64s_length]; omega)) ?_
      refine JL_loadE ty3 rfl (by first | exact Reads.view (by repeat (first | with_reducible exact mm0 | refine mmS ?_))) (i64s_get (by omega)) ?_
      refine JL_callF' Asks.nil (rwt_con) rfl ca34 ⟨rfl, rfl⟩ ?_
      rintro _ _ ⟨rfl, rfl⟩
      refine JL_split (fun h17 => ?_) (fun h17 => ?_)
      · refine JL_not rfl ?_
        rw [Bool.not_true]
        refine JL_done_up 19 [] [_] rfl rfl (by simp only [nrmF]; rfl) rfl rfl ?_
        refine JC_false rfl ?_
        refine JC_skip ?_
        refine JE_block_normal ?_
        refine JE_then ?_
        refine JC_region ?_
        refine JL_move rfl ?_
        refine JL_add_to rfl rfl (IntWalk.i64_in _ (by omega)) ?_
        refine JL_assign rfl ?_
        refine JL_nil_up 19 [] [_] rfl rfl (by simp only [nrmF]; rfl) rfl rfl ?_
        refine JE_nextS (k + 1) (by kernel_rfl) ?_ ?_ (by kernel_rfl) ?_
        · exact ⟨by omega, fun j hj => by
          by_cases h : j = k
          · subst h; exact h17
          · exact hok j (by omega)⟩
        · first | omega | (dsimp only; omega)
        · exact subset_app subset_nil ss0
      · refine JL_not rfl ?_
        rw [Bool.not_false]
        refine JL_done_up 19 [] [_] rfl rfl (by simp only [nrmF]; rfl) rfl rfl ?_
        refine JC_true rfl ?_
        refine JC_seq ?_
        refine JC_region ?_
        refine JL_assign rfl ?_
        refine JL_done_up 19 [] [_] rfl rfl (by simp only [nrmF]; rfl) rfl rfl ?_
        refine JC_ret ?_
        refine JE_block_ret ?_
        refine JE_then_ret ?_
        refine JE_nextS_ret ?_
        refine JE_block_ret ?_
        refine JE_then_ret ?_
        refine JE_ret (vs := [_]) [] Tryz.results46 ⟨rfl, rfl⟩ ?_ ?_
        · rw [chkE_bad (by omega) (badW_hit (by omega) h17)]; exact ⟨rfl, rfl⟩
        · exact all_nil
    · refine JL_done_up 19 [] [_] rfl rfl (by simp only [nrmF]; rfl) rfl rfl ?_
      refine JC_false rfl ?_
      refine JC_exit ?_
      refine JE_then_exit ?_
      refine JE_nextS_exit ?_
      refine JE_block_exit ?_
      refine JE_then ?_
      refine JC_seq ?_
      refine JC_region ?_
      refine JL_assign rfl ?_
      refine JL_done_up 19 [] [_] rfl rfl (by simp only [nrmF]; rfl) rfl rfl ?_
      refine JC_ret ?_
      refine JE_ret (vs := [_]) [] Tryz.results46 ⟨rfl, rfl⟩ ?_ ?_
      · rw [chkE_ok (by omega) (badW_miss (fun j hj => hok j (by omega)))]; exact ⟨rfl, rfl⟩
      · exact all_nil

theorem rmultN_con {w m : Int} {s1 : Bool} {ad1 : Option Addr} {n1 c1 : Nat} {L1 : List Nat} {be1 : Option Addr} {m1 e1 : Nat} {M1 : List Nat} {q1 : Rat} (g1 : FIn s1 n1 L1 m1 M1 q1 4) {k : Int} {r : Rat} (hE : mulE w q1 m = 0) (hK : mulK w q1 m = k) (hO : mulO w q1 m = some r) : ConF Tryz.prog 10 [.int .i64 w, .agg #[.bool s1, .slice ad1 n1 c1, .slice be1 m1 e1], .int .i64 m] [vCells ad1 (u32s L1), vCells be1 (u32s M1)] (MUL k (some r) 0) := by
  have e := rmult_con (w := w) (m := m) (ad1 := ad1) (c1 := c1) (be1 := be1) (e1 := e1) g1
  rw [hK, hO, hE] at e
  exact e


set_option maxHeartbeats 1000000 in
theorem rerror_con {m : Int} {ad0 : Option Addr} {c0 : Nat} {L : List Int} {s1 : Bool} {ad1 : Option Addr} {n1 c1 : Nat} {L1 : List Nat} {be1 : Option Addr} {m1 e1 : Nat} {M1 : List Nat} {q1 : Rat} (g1 : FIn s1 n1 L1 m1 M1 q1 4) :
    ConF Tryz.prog 15 [.slice ad0 L.length c0, .agg #[.bool s1, .slice ad1 n1 c1, .slice be1 m1 e1], .int .i64 m] [vCells ad0 (i64s L), vCells ad1 (u32s L1), vCells be1 (u32s M1)]
      (FOE (errO L q1 m) (errE L q1 m)) := by
  have hu := g1.qs
  refine ConF_of Tryz.func15 rfl 58 _ rfl rfl ?_
  intro w0
  refine JC_norm ⟨58, [], [_, _, _, _, _, _, _, _, _, _, _, _, _, _, _, _, _, _, _, _, _, _, _, _, _, _, _, _, _, _, _, _, _, _, _, _, _, _, _, _, _, _, _, _, _, _, _, _, _, _, _, _, _, _, _, _, _, _]⟩ [] [_, _, _] rfl rfl rfl ?_
  refine JC_seq ?_
  refine JC_region ?_
  refine JL_box rfl rfl (fun b4 => ?_)
  refine JL_alloc z26 (fun b6 => ?_)
  refine JL_assign rfl ?_
  refine JL_done_up 58 [box _ _ [_, _, _], box _ _ [_, _, _]] [_, _, _] rfl rfl (by simp only [nrmF]; rfl) rfl rfl ?_
  refine JC_seq ?_
  refine JC_seq ?_
  refine JC_region ?_
  refine JL_move rfl ?_
  refine JL_callF' (Asks.cons (holds_of_mem (by repeat (first | with_reducible exact mm0 | refine mmS ?_))) Asks.nil) (rcheck_con) rfl ca46 ⟨rfl, rfl⟩ ?_
  rintro _ _ ⟨rfl, rfl⟩
  refine JL_assign rfl ?_
  refine JL_done_up 58 [box _ _ [_, _, _], box _ _ [_, _, _]] [_, _, _] rfl rfl (by simp only [nrmF]; rfl) rfl rfl ?_
  refine JC_seq ?_
  refine JC_region ?_
  refine JL_move rfl ?_
  refine JL_neq rfl rfl ?_
  refine JL_split (fun h17 => ?_) (fun h17 => ?_)
  · refine JL_done_up 58 [box _ _ [_, _, _], box _ _ [_, _, _]] [_, _, _] rfl rfl (by simp only [nrmF]; rfl) rfl rfl ?_
    refine JC_true rfl ?_
    refine JC_seq ?_
    refine JC_region ?_
    refine JL_build (cs := [_, _, _]) [] st26 rfl rfl ?_
    refine JL_move rfl ?_
    refine JL_store (vs := [_, _, _]) 1 ty26 rfl rfl rfl (AllOne.cons rfl (AllOne.cons rfl (AllOne.cons rfl AllOne.nil))) rfl (Nat.le_of_ble_eq_true rfl) ?_
    refine JL_assign rfl ?_
    refine JL_done_up 58 [box _ _ [_, _, _], box _ _ [_, _, _]] [_, _, _] rfl rfl (by simp only [nrmF]; rfl) rfl rfl ?_
    refine JC_ret ?_
    refine JE_then_ret ?_
    have he : errE L q1 m ≠ 0 := by rw [errE_chk h17]; first | assumption | decide
    refine JE_nilView ?_
    refine JE_ret (vs := [_, _]) [vCells none (u32s []), vCells none (u32s [])] Tryz.results15 ⟨RV.cell (vs := [_, _, _]) 1 ty26 rfl rfl ⟨rfl, rfl, rfl, trivial⟩, rfl, rfl⟩ ?_ ?_
    · rw [errO_no he, errE_chk h17]; exact ⟨none, 0, none, 0, rfl, rfl⟩
    · exact (all_cons (by repeat (first | with_reducible exact mm0 | refine mmS ?_)) (all_cons (by repeat (first | with_reducible exact mm0 | refine mmS ?_)) all_nil))
  · refine JL_done_up 58 [box _ _ [_, _, _], box _ _ [_, _, _]] [_, _, _] rfl rfl (by simp only [nrmF]; rfl) rfl rfl ?_
    refine JC_false rfl ?_
    refine JC_skip ?_
    refine JE_then ?_
    refine JC_seq ?_
    refine JC_seq ?_
    refine JC_region ?_
    refine JL_loadA (vs := [_, _, _]) 0 ty26 rfl rfl ⟨rfl, rfl, rfl, trivial⟩ ?_
    refine JL_callF' (Asks.cons (holds_of_mem (by repeat (first | with_reducible exact mm0 | refine mmS ?_))) (Asks.cons (holds_of_mem (by repeat (first | with_reducible exact mm0 | refine mmS ?_))) Asks.nil)) (rsign_con (g1.mono (by decide))) rfl ca35 ⟨rfl, rfl⟩ ?_
    rintro _ _ ⟨rfl, rfl⟩
    refine JL_leq rfl rfl ?_
    refine JL_split (fun h22 => ?_) (fun h22 => ?_)
    · refine JL_done_up 58 [box _ _ [_, _, _], box _ _ [_, _, _]] [_, _, _] rfl rfl (by simp only [nrmF]; rfl) rfl rfl ?_
      refine JC_true rfl ?_
      refine JC_seq ?_
      refine JC_region ?_
      refine JL_build (cs := [_, _, _]) [] st26 rfl rfl ?_
      refine JL_store (vs := [_, _, _]) 1 ty26 rfl rfl rfl (AllOne.cons rfl (AllOne.cons rfl (AllOne.cons rfl AllOne.nil))) rfl (Nat.le_of_ble_eq_true rfl) ?_
      refine JL_assign rfl ?_
      refine JL_done_up 58 [box _ _ [_, _, _], box _ _ [_, _, _]] [_, _, _] rfl rfl (by simp only [nrmF]; rfl) rfl rfl ?_
      refine JC_ret ?_
      refine JE_then_ret ?_
      have he : errE L q1 m ≠ 0 := by rw [errE_unit h17 (fun e => absurd (sgn_pos.2 e) (by omega))]; first | assumption | decide
      refine JE_nilView ?_
      refine JE_ret (vs := [_, _]) [vCells none (u32s []), vCells none (u32s [])] Tryz.results15 ⟨RV.cell (vs := [_, _, _]) 1 ty26 rfl rfl ⟨rfl, rfl, rfl, trivial⟩, rfl, rfl⟩ ?_ ?_
      · rw [errO_no he, errE_unit h17 (fun e => absurd (sgn_pos.2 e) (by omega))]; exact ⟨none, 0, none, 0, rfl, rfl⟩
      · exact (all_cons (by repeat (first | with_reducible exact mm0 | refine mmS ?_)) (all_cons (by repeat (first | with_reducible exact mm0 | refine mmS ?_)) all_nil))
    · refine JL_done_up 58 [box _ _ [_, _, _], box _ _ [_, _, _]] [_, _, _] rfl rfl (by simp only [nrmF]; rfl) rfl rfl ?_
      refine JC_false rfl ?_
      refine JC_skip ?_
      refine JE_then ?_
      refine JC_seq ?_
      refine JC_seq ?_
      refine JC_region ?_
      refine JL_move rfl ?_
      refine JL_callF' Asks.nil (rlim_con (tol := 0)) rfl ca36 ⟨rfl, rfl, rfl⟩ ?_
      rintro _ _ ⟨rfl, rfl⟩
      refine JL_split (fun h25 => ?_) (fun h25 => ?_)
      · refine JL_not rfl ?_
        rw [Bool.not_true]
        refine JL_done_up 58 [box _ _ [_, _, _], box _ _ [_, _, _]] [_, _, _] rfl rfl (by simp only [nrmF]; rfl) rfl rfl ?_
        refine JC_false rfl ?_
        refine JC_skip ?_
        refine JE_then ?_
        refine JC_seq ?_
        refine JC_seq ?_
        refine JC_region ?_
        refine JL_move rfl ?_
        refine JL_len sl37 rfl ?_
        refine JL_eql rfl rfl ?_
        refine JL_split (fun h30 => ?_) (fun h30 => ?_)
        · refine JL_done_up 58 [box _ _ [_, _, _], box _ _ [_, _, _]] [_, _, _] rfl rfl (by simp only [nrmF]; rfl) rfl rfl ?_
          refine JC_true rfl ?_
          refine JC_seq ?_
          refine JC_region ?_
          refine JL_build (cs := [_, _, _]) [] st26 rfl rfl ?_
          refine JL_store (vs := [_, _, _]) 1 ty26 rfl rfl rfl (AllOne.cons rfl (AllOne.cons rfl (AllOne.cons rfl AllOne.nil))) rfl (Nat.le_of_ble_eq_true rfl) ?_
          refine JL_assign rfl ?_
          refine JL_done_up 58 [box _ _ [_, _, _], box _ _ [_, _, _]] [_, _, _] rfl rfl (by simp only [nrmF]; rfl) rfl rfl ?_
          refine JC_ret ?_
          refine JE_then_ret ?_
          have he : errE L q1 m ≠ 0 := by rw [errE_nil h17 (sgn_pos.1 (by omega)) (fun e => e (limE_ok h25)) (by omega)]; first | assumption | decide
          refine JE_nilView ?_
          refine JE_ret (vs := [_, _]) [vCells none (u32s []), vCells none (u32s [])] Tryz.results15 ⟨RV.cell (vs := [_, _, _]) 1 ty26 rfl rfl ⟨rfl, rfl, rfl, trivial⟩, rfl, rfl⟩ ?_ ?_
          · rw [errO_no he, errE_nil h17 (sgn_pos.1 (by omega)) (fun e => e (limE_ok h25)) (by omega)]; exact ⟨none, 0, none, 0, rfl, rfl⟩
          · exact (all_cons (by repeat (first | with_reducible exact mm0 | refine mmS ?_)) (all_cons (by repeat (first | with_reducible exact mm0 | refine mmS ?_)) all_nil))
        · refine JL_done_up 58 [box _ _ [_, _, _], box _ _ [_, _, _]] [_, _, _] rfl rfl (by simp only [nrmF]; rfl) rfl rfl ?_
          refine JC_false rfl ?_
          refine JC_skip ?_
          refine JE_then ?_
          refine JC_seq ?_
          have hz : chkE L = 0 := Classical.byContradiction h17
          obtain ⟨hn64, hws⟩ := chkE_zero hz
          have hq0 : 0 < q1 := sgn_pos.1 (by omega)
          refine JC_region ?_
          refine JL_callF' Asks.nil (rofi_con 0 1 (by omega) (by omega)) rfl ca38 ⟨rfl, rfl, rfl⟩ ?_
          rintro _ _ ⟨ad32, cp32, be32, ce32, rfl, rfl⟩
          refine JL_alloc z26 (fun b9 => ?_)
          refine JL_store (vs := [_, _, _]) 2 ty26 rfl rfl rfl (AllOne.cons rfl (AllOne.cons rfl (AllOne.cons rfl AllOne.nil))) rfl (Nat.le_of_ble_eq_true rfl) ?_
          refine JL_done_up 58 [box _ _ [_, _, _], box _ _ [_, _, _], box _ _ [_, _, _]] [_, _, _, _, _] rfl rfl (by simp only [nrmF]; rfl) rfl rfl ?_
          refine JC_seq ?_
          refine JC_seq ?_
          refine JC_region ?_
          refine JL_assign rfl ?_
          refine JL_done_up 58 [box _ _ [_, _, _], box _ _ [_, _, _], box _ _ [_, _, _]] [_, _, _, _, _] rfl rfl (by simp only [nrmF]; rfl) rfl rfl ?_
          refine JC_block ?_
          refine JC_loopS ((Nat) × (Rat) × (Option Addr) × (Nat) × (Option Addr) × (Nat)) (fun (i, q, ad, c, be, e) => i ≤ L.length ∧ errR L q1 m i = q) (fun (i, q, ad, c, be, e) => L.length - i) (fun u (i, q, ad, c, be, e) => [none, none, none, none, none, none, none, none, none, none, some (.int .i64 (i : Nat)), some (u 11), some (u 12), some (u 13), none, none, none, none, none, none, none, none, none, none, none, none, none, none, none, none, none, none, none, some (u 33), some (u 34), some (u 35), some (u 36), some (u 37), some (u 38), some (u 39), some (u 40), some (u 41), some (u 42), some (u 43), some (u 44), some (u 45), some (u 46), some (u 47), some (u 48), some (u 49), some (u 50), some (u 51), some (u 52), some (u 53), some (u 54), some (u 55), some (u 56), none]) (fun (i, q, ad, c, be, e) => [none, none, some (box b9 26 [.bool (fneg (some q)), .slice ad (fnum (some q)).length c, .slice be (fden (some q)).length e])]) (fun (i, q, ad, c, be, e) => [(true, vCells ad (u32s (fnum (some q)))), (true, vCells be (u32s (fden (some q))))]) (0, ofq 0 1, ad32, cp32, be32, ce32) (by kernel_rfl) ?_ (by kernel_rfl) ?_ ?_
          · exact ⟨Nat.zero_le _, rfl⟩
          · exact (subset_cons (by repeat (first | with_reducible exact mm0 | refine mmS ?_)) (subset_cons (by repeat (first | with_reducible exact mm0 | refine mmS ?_)) subset_nil))
          intro u i hC
          obtain ⟨i, q, ad, c, be, e⟩ := i
          obtain ⟨hi, hR⟩ := hC
          refine JC_norm ⟨58, [], [_, _, _, _, _, _, _, _, _, _, _, _, _, _, _, _, _, _, _, _, _, _, _, _, _, _, _, _, _, _, _, _, _, _, _, _, _, _, _, _, _, _, _, _, _, _, _, _, _, _, _, _, _, _, _, _, _, _]⟩ [box _ _ [_, _, _], box _ _ [_, _, _], box _ _ [_, _, _]] [_, _, _, _, _, _, _] rfl rfl rfl ?_
          refine JC_seq ?_
          refine JC_seq ?_
          refine JC_region ?_
          refine JL_move rfl ?_
          refine JL_move rfl ?_
          refine JL_len sl37 rfl ?_
          refine JL_lss rfl rfl ?_
          refine JL_split (fun h36 => ?_) (fun h36 => ?_)
          · refine JL_done_up 58 [box _ _ [_, _, _], box _ _ [_, _, _], box _ _ [_, _, _]] [_, _, _, _, _, _, _] rfl rfl (by simp only [nrmF]; rfl) rfl rfl ?_
            refine JC_true rfl ?_
            refine JC_skip ?_
            refine JE_then ?_
            refine JC_seq ?_
            refine JC_block ?_
            refine JC_seq ?_
            have hw := hws i (by omega)
            have hE : mulE (L.getD i 0) q1 m = 0 := by rw [mulE_lim hw hq0]; exact limE_ok h25
            have hqo : qs (offR (L.getD i 0) q1 m) 12 := qs_mulR hw hu (by have := h25.2.2; omega)
            have hqR := qs_errR hws hu h25.2.2 (i := i) (by omega)
            rw [hR] at hqR
            refine JC_drawLate mixed 13 10 [spV 40 [] _, spV 41 [] _, spV 42 [0, 1] _, spV 43 [2] _, spV 44 [] _, spV 45 [] _, spC 46 [3, 4, 5] _, spC 39 [6] _, spC 47 [7] (fun v φo => v = .int .i64 (mulR (L.getD i 0) q1 (m.toNat - 1)).1 ∧ φo = []), spC 48 [7] (FO (some (offR (L.getD i 0) q1 m))), spC 49 [7] (fun v φo => v = .int .i64 0 ∧ φo = []), spA 12 26 [.bool false, .slice none 0 0, .slice none 0 0], spC 11 [8] _] ⟨OblS_V (fun vals ex ψ => (by
                refine JL_normQ ⟨58, [(40, _), (41, _), (42, _), (43, _), (44, _), (45, _), (46, _), (39, _), (47, _), (48, _), (49, _), (12, _), (11, _)], _⟩ (_ :: _ :: _ :: _ :: _ :: _ :: _ :: ψ) rfl rfl ?_
                refine JL_move rfl ?_
                exact JL_nil (JE_stepV rfl ss0))), OblS_V (fun vals ex ψ => (by
                refine JL_normQ ⟨58, [(40, _), (41, _), (42, _), (43, _), (44, _), (45, _), (46, _), (39, _), (47, _), (48, _), (49, _), (12, _), (11, _)], _⟩ (_ :: _ :: _ :: _ :: _ :: _ :: _ :: ψ) rfl rfl ?_
                refine JL_move rfl ?_
                exact JL_nil (JE_stepV rfl ss0))), OblS_V (fun vals ex ψ => (by
                refine JL_normQ ⟨58, [(40, _), (41, _), (42, _), (43, _), (44, _), (45, _), (46, _), (39, _), (47, _), (48, _), (49, _), (12, _), (11, _)], _⟩ (_ :: _ :: _ :: _ :: _ :: _ :: _ :: ψ) rfl rfl ?_
                refine JL_idx i sl37 rfl rfl rfl (by omega) (by first | exact Reads.view (by repeat (first | with_reducible exact mm0 | refine mmS ?_))) (by first | (rw [u32s_length]; omega) | (rw [i64s_length]; omega)) ?_
                exact JL_nil (JE_stepV rfl ss0))), OblS_V (fun vals ex ψ => (by
                refine JL_normQ ⟨58, [(40, _), (41, _), (42, _), (43, _), (44, _), (45, _), (46, _), (39, _), (47, _), (48, _), (49, _), (12, _), (11, _)], _⟩ (_ :: _ :: _ :: _ :: _ :: _ :: _ :: ψ) rfl rfl ?_
                refine JL_loadE ty3 rfl (by first | exact Reads.view (by repeat (first | with_reducible exact mm0 | refine mmS ?_))) (i64s_get (by omega)) ?_
                exact JL_nil (JE_stepV rfl ss0))), OblS_V (fun vals ex ψ => (by
                refine JL_normQ ⟨58, [(40, _), (41, _), (42, _), (43, _), (44, _), (45, _), (46, _), (39, _), (47, _), (48, _), (49, _), (12, _), (11, _)], _⟩ (_ :: _ :: _ :: _ :: _ :: _ :: _ :: ψ) rfl rfl ?_
                refine JL_loadA (vs := [_, _, _]) 0 ty26 rfl rfl ⟨rfl, rfl, rfl, trivial⟩ ?_
                exact JL_nil (JE_stepV rfl ss0))), OblS_V (fun vals ex ψ => (by
                refine JL_normQ ⟨58, [(40, _), (41, _), (42, _), (43, _), (44, _), (45, _), (46, _), (39, _), (47, _), (48, _), (49, _), (12, _), (11, _)], _⟩ (_ :: _ :: _ :: _ :: _ :: _ :: _ :: ψ) rfl rfl ?_
                refine JL_move rfl ?_
                exact JL_nil (JE_stepV rfl ss0))), OblS_C (fun vals ex ψ => (by
                refine JL_normQ ⟨58, [(40, _), (41, _), (42, _), (43, _), (44, _), (45, _), (46, _), (39, _), (47, _), (48, _), (49, _), (12, _), (11, _)], _⟩ (_ :: _ :: _ :: _ :: _ :: _ :: _ :: ψ) rfl rfl ?_
                refine JL_callF' (Asks.cons (holds_of_mem (by repeat (first | with_reducible exact mm0 | refine mmS ?_))) (Asks.cons (holds_of_mem (by repeat (first | with_reducible exact mm0 | refine mmS ?_))) Asks.nil)) (rmultN_con (w := L.getD i 0) (m := m) (k := (mulR (L.getD i 0) q1 (m.toNat - 1)).1) (r := offR (L.getD i 0) q1 m) g1 hE (mulK_ok hE) (mulO_ok hE)) rfl ca10 ⟨rfl, rfl, rfl, rfl⟩ ?_
                exact fun v φo hP => JL_nil (JE_stepC φo rfl hP (fun p hp => mapB_l hp) (fun p hp => mapB_r (ss0 p hp))))), OblS_C (fun vals ex ψ => (by
                refine JL_normQ ⟨58, [(40, _), (41, _), (42, _), (43, _), (44, _), (45, _), (46, _), (39, _), (47, _), (48, _), (49, _), (12, _), (11, _)], _⟩ (_ :: _ :: _ :: _ :: _ :: _ :: _ :: _ :: ψ) rfl rfl ?_
                generalize vals 6 = x46
                refine JL_usePost mm0 (fun φo hP => ?_)
                refine JL_move rfl ?_
                exact JL_nil (JE_stepC φo rfl hP (fun p hp => List.mem_append_left _ (List.mem_map.2 ⟨p, hp, rfl⟩)) (fun p hp => List.mem_append_right _ hp)))), OblS_C (fun vals ex ψ => (by
                refine JL_normQ ⟨58, [(40, _), (41, _), (42, _), (43, _), (44, _), (45, _), (46, _), (39, _), (47, _), (48, _), (49, _), (12, _), (11, _)], _⟩ (_ :: _ :: _ :: _ :: _ :: _ :: _ :: _ :: ψ) rfl rfl ?_
                generalize vals 7 = x39
                refine JL_usePost mm0 (fun φo hP => ?_)
                obtain ⟨ad39, cp39, be39, ce39, rfl, rfl⟩ := hP
                refine JL_norm _ _ (_ :: _ :: _ :: _ :: _ :: _ :: _ :: _ :: _ :: _ :: ψ) rfl rfl rfl ?_
                refine JL_extract rfl rfl ?_
                exact JL_nil (JE_stepC [] rfl ⟨rfl, rfl⟩ all_nil (ssS (ssS ss0))))), OblS_C (fun vals ex ψ => (by
                refine JL_normQ ⟨58, [(40, _), (41, _), (42, _), (43, _), (44, _), (45, _), (46, _), (39, _), (47, _), (48, _), (49, _), (12, _), (11, _)], _⟩ (_ :: _ :: _ :: _ :: _ :: _ :: _ :: _ :: ψ) rfl rfl ?_
                generalize vals 7 = x39
                refine JL_usePost mm0 (fun φo hP => ?_)
                obtain ⟨ad39, cp39, be39, ce39, rfl, rfl⟩ := hP
                refine JL_norm _ _ (_ :: _ :: _ :: _ :: _ :: _ :: _ :: _ :: _ :: _ :: ψ) rfl rfl rfl ?_
                refine JL_extract rfl rfl ?_
                exact JL_nil (JE_stepC [vCells ad39 (u32s (fnum (some (offR (L.getD i 0) q1 m)))), vCells be39 (u32s (fden (some (offR (L.getD i 0) q1 m))))] rfl ⟨ad39, cp39, be39, ce39, rfl, rfl⟩ (all_cons (by repeat (first | with_reducible exact mm0 | refine mmS ?_)) (all_cons (by repeat (first | with_reducible exact mm0 | refine mmS ?_)) all_nil)) (ssS (ssS ss0))))), OblS_C (fun vals ex ψ => (by
                refine JL_normQ ⟨58, [(40, _), (41, _), (42, _), (43, _), (44, _), (45, _), (46, _), (39, _), (47, _), (48, _), (49, _), (12, _), (11, _)], _⟩ (_ :: _ :: _ :: _ :: _ :: _ :: _ :: _ :: ψ) rfl rfl ?_
                generalize vals 7 = x39
                refine JL_usePost mm0 (fun φo hP => ?_)
                obtain ⟨ad39, cp39, be39, ce39, rfl, rfl⟩ := hP
                refine JL_norm _ _ (_ :: _ :: _ :: _ :: _ :: _ :: _ :: _ :: _ :: _ :: ψ) rfl rfl rfl ?_
                refine JL_extract rfl rfl ?_
                exact JL_nil (JE_stepC [] rfl ⟨rfl, rfl⟩ all_nil (ssS (ssS ss0))))), OblS_al rfl z26, OblS_C (fun vals ex ψ => (by
                refine JL_normQ ⟨58, [(40, _), (41, _), (42, _), (43, _), (44, _), (45, _), (46, _), (39, _), (47, _), (48, _), (49, _), (12, _), (11, _)], _⟩ (_ :: _ :: _ :: _ :: _ :: _ :: _ :: _ :: ψ) rfl rfl ?_
                generalize vals 8 = x47
                refine JL_usePost mm0 (fun φo hP => ?_)
                refine JL_assign rfl ?_
                exact JL_nil (JE_stepC φo rfl hP (fun p hp => List.mem_append_left _ (List.mem_map.2 ⟨p, hp, rfl⟩)) (fun p hp => List.mem_append_right _ hp)))), trivial⟩ (by kernel_rfl) rfl rfl rfl (fun vals bs => ?_) (fun vals bs => ?_)
            · refine JL_normL [_, _] ⟨58, [(40, _), (41, _), (42, _), (43, _), (44, _), (45, _), (46, _), (39, _), (47, _), (48, _), (49, _), (12, _), (11, _)], _⟩ [box _ _ [_, _, _], box _ _ [_, _, _], box _ _ [_, _, _], box _ _ [_, _, _]] [_, _, _, _, _, _, _, _, _, _, _, _, _] rfl rfl rfl rfl ?_
              generalize vals (0 + 1 + 1 + 1 + 1 + 1 + 1) = x46
              generalize vals (0 + 1 + 1 + 1 + 1 + 1 + 1 + 1) = x39
              generalize vals (0 + 1 + 1 + 1 + 1 + 1 + 1 + 1 + 1) = x47
              generalize vals (0 + 1 + 1 + 1 + 1 + 1 + 1 + 1 + 1 + 1) = x48
              generalize vals (0 + 1 + 1 + 1 + 1 + 1 + 1 + 1 + 1 + 1 + 1) = x49
              generalize bs (0 + 1 + 1 + 1 + 1 + 1 + 1 + 1 + 1 + 1 + 1 + 1) = b12
              generalize vals (0 + 1 + 1 + 1 + 1 + 1 + 1 + 1 + 1 + 1 + 1 + 1 + 1) = x11
              refine JL_usePost (mmS (mmS (mmS mm0))) (fun φo hP => ?_)
              obtain ⟨ad48, cp48, be48, ce48, rfl, rfl⟩ := hP
              refine JL_norm _ [box _ _ [_, _, _], box _ _ [_, _, _], box _ _ [_, _, _], box _ _ [_, _, _]] [_, _, _, _, _, _, _, _, _, _, _, _, _, _, _] rfl rfl rfl ?_
              refine JL_usePost (mmS (mmS (mmS (mmS (mmS (mmS mm0)))))) (fun φo hP => ?_)
              obtain ⟨rfl, rfl⟩ := hP
              refine JL_norm _ [box _ _ [_, _, _], box _ _ [_, _, _], box _ _ [_, _, _], box _ _ [_, _, _]] [_, _, _, _, _, _, _, _, _, _, _, _, _, _, _] rfl rfl rfl ?_
              refine JL_store (vs := [_, _, _]) 3 ty26 rfl rfl rfl (AllOne.cons rfl (AllOne.cons rfl (AllOne.cons rfl AllOne.nil))) rfl (Nat.le_of_ble_eq_true rfl) ?_
              refine JL_assign rfl ?_
              refine JL_done_up 58 [box _ _ [_, _, _], box _ _ [_, _, _], box _ _ [_, _, _], box _ _ [_, _, _]] [_, _, _, _, _, _, _, _, _, _, _, _, _, _, _] rfl rfl (by simp only [nrmF]; rfl) rfl rfl ?_
              refine JC_seq ?_
              refine JC_drawT mixed 3 [spV 50 [] _, spC 51 [0] _, spV 52 [] _] ⟨OblS_V (fun vals ex ψ => (by
                  refine JL_normQ ⟨58, [(50, _), (51, _), (52, _)], _⟩ (_ :: _ :: _ :: _ :: _ :: _ :: _ :: _ :: _ :: _ :: _ :: _ :: _ :: _ :: _ :: ψ) rfl rfl ?_
                  refine JL_loadA (vs := [_, _, _]) 3 ty26 rfl rfl ⟨rfl, rfl, rfl, trivial⟩ ?_
                  exact JL_nil (JE_stepV rfl ss0))), OblS_C (fun vals ex ψ => (by
                  refine JL_normQ ⟨58, [(50, _), (51, _), (52, _)], _⟩ (_ :: _ :: _ :: _ :: _ :: _ :: _ :: _ :: _ :: _ :: _ :: _ :: _ :: _ :: _ :: ψ) rfl rfl ?_
                  refine JL_callF' (Asks.cons (holds_of_mem (by repeat (first | with_reducible exact mm0 | refine mmS ?_))) (Asks.cons (holds_of_mem (by repeat (first | with_reducible exact mm0 | refine mmS ?_))) Asks.nil)) (rsize_con (FIn.some (hqo.mono (by decide)))) rfl ca41 ⟨rfl, rfl⟩ ?_
                  exact fun v φo hP => JL_nil (JE_stepC φo rfl hP (fun p hp => mapB_l hp) (fun p hp => mapB_r (ss0 p hp))))), OblS_V (fun vals ex ψ => (by
                  refine JL_normQ ⟨58, [(50, _), (51, _), (52, _)], _⟩ (_ :: _ :: _ :: _ :: _ :: _ :: _ :: _ :: _ :: _ :: _ :: _ :: _ :: _ :: _ :: ψ) rfl rfl ?_
                  refine JL_loadA (vs := [_, _, _]) 2 ty26 rfl rfl ⟨rfl, rfl, rfl, trivial⟩ ?_
                  exact JL_nil (JE_stepV rfl ss0))), trivial⟩ (by kernel_rfl) (fun vals bs => ?_)
              refine JL_normL [_, _] ⟨58, [(50, _), (51, _), (52, _)], _⟩ [box _ _ [_, _, _], box _ _ [_, _, _], box _ _ [_, _, _], box _ _ [_, _, _]] [_, _, _, _, _, _, _, _, _, _, _, _, _, _, _, _] rfl rfl rfl rfl ?_
              generalize vals (0 + 1) = x51
              refine JL_usePost mm0 (fun φo hP => ?_)
              obtain ⟨ad51, cp51, be51, ce51, rfl, rfl⟩ := hP
              refine JL_norm _ [box _ _ [_, _, _], box _ _ [_, _, _], box _ _ [_, _, _], box _ _ [_, _, _]] [_, _, _, _, _, _, _, _, _, _, _, _, _, _, _, _, _, _] rfl rfl rfl ?_
              refine JL_callF' (Asks.cons (holds_of_mem (by repeat (first | with_reducible exact mm0 | refine mmS ?_))) (Asks.cons (holds_of_mem (by repeat (first | with_reducible exact mm0 | refine mmS ?_))) (Asks.cons (holds_of_mem (by repeat (first | with_reducible exact mm0 | refine mmS ?_))) (Asks.cons (holds_of_mem (by repeat (first | with_reducible exact mm0 | refine mmS ?_))) Asks.nil)))) (rcmpq_con (FIn.some ((qs_absq hqo).mono (by decide))) (FIn.some (hqR.mono (by decide)))) rfl ca40 ⟨rfl, rfl, rfl⟩ ?_
              rintro _ _ ⟨rfl, rfl⟩
              refine JL_gtr rfl rfl ?_
              refine JL_done_up 58 [box _ _ [_, _, _], box _ _ [_, _, _], box _ _ [_, _, _], box _ _ [_, _, _]] [_, _, _, _, _, _, _, _, _, _, _, _, _, _, _, _, _, _] rfl rfl (by simp only [nrmF]; rfl) rfl rfl ?_
              refine JC_cond rfl (fun hb => ?_) (fun hb => ?_)
              · have h54 := of_decide_eq_true hb
                refine JC_region ?_
                refine JL_loadA (vs := [_, _, _]) 3 ty26 rfl rfl ⟨rfl, rfl, rfl, trivial⟩ ?_
                refine JL_callF' (Asks.cons (holds_of_mem (by repeat (first | with_reducible exact mm0 | refine mmS ?_))) (Asks.cons (holds_of_mem (by repeat (first | with_reducible exact mm0 | refine mmS ?_))) Asks.nil)) (rsize_con (FIn.some (hqo.mono (by decide)))) rfl ca41 ⟨rfl, rfl⟩ ?_
                rintro _ _ ⟨ad56, cp56, be56, ce56, rfl, rfl⟩
                refine JL_store (vs := [_, _, _]) 2 ty26 rfl rfl rfl (AllOne.cons rfl (AllOne.cons rfl (AllOne.cons rfl AllOne.nil))) rfl (Nat.le_of_ble_eq_true rfl) ?_
                refine JL_nil_up 58 [box _ _ [_, _, _], box _ _ [_, _, _], box _ _ [_, _, _], box _ _ [_, _, _]] [_, _, _, _, _, _, _, _, _, _, _, _, _, _, _, _, _, _, _, _] rfl rfl (by simp only [nrmF]; rfl) rfl rfl ?_
                refine JE_block_normal ?_
                refine JE_then ?_
                refine JC_region ?_
                refine JL_move rfl ?_
                refine JL_add_to rfl rfl (IntWalk.i64_in _ (by omega)) ?_
                refine JL_assign rfl ?_
                refine JL_nil_up 58 [box _ _ [_, _, _], box _ _ [_, _, _], box _ _ [_, _, _], box _ _ [_, _, _]] [_, _, _, _, _, _, _, _, _, _, _, _, _, _, _, _, _, _, _, _] rfl rfl (by simp only [nrmF]; rfl) rfl rfl ?_
                refine JE_dropAt 3 ?_
                refine JE_norm _ [box _ _ [_, _, _], box _ _ [_, _, _], box _ _ [_, _, _]] [_, _, _, _, _, _, _, _, _, _, _, _, _, _, _, _, _, _, _, _] rfl rfl rfl ?_
                refine JE_nextS (i + 1, absq (offR (L.getD i 0) q1 m), ad56, cp56, be56, ce56) (by kernel_rfl) ?_ ?_ (by kernel_rfl) ?_
                · subst hR; exact ⟨by omega, errR_up (cmpQ_pos.1 h54)⟩
                · first | omega | (dsimp only; omega)
                · exact subset_app (subset_cons (by repeat (first | with_reducible exact mm0 | refine mmS ?_)) (subset_cons (by repeat (first | with_reducible exact mm0 | refine mmS ?_)) subset_nil)) (ssS (ssS (ssS (ssS (ssS (ssS (ssS (ssS (ssS (ssS (ssS (ssS (ssS (ssS (ssS ss0)))))))))))))))
              · have h54 := of_decide_eq_false hb
                refine JC_skip ?_
                refine JE_block_normal ?_
                refine JE_then ?_
                refine JC_region ?_
                refine JL_move rfl ?_
                refine JL_add_to rfl rfl (IntWalk.i64_in _ (by omega)) ?_
                refine JL_assign rfl ?_
                refine JL_nil_up 58 [box _ _ [_, _, _], box _ _ [_, _, _], box _ _ [_, _, _], box _ _ [_, _, _]] [_, _, _, _, _, _, _, _, _, _, _, _, _, _, _, _, _, _] rfl rfl (by simp only [nrmF]; rfl) rfl rfl ?_
                refine JE_dropAt 3 ?_
                refine JE_norm _ [box _ _ [_, _, _], box _ _ [_, _, _], box _ _ [_, _, _]] [_, _, _, _, _, _, _, _, _, _, _, _, _, _, _, _, _, _] rfl rfl rfl ?_
                refine JE_nextS (i + 1, q, ad, c, be, e) (by kernel_rfl) ?_ ?_ (by kernel_rfl) ?_
                · subst hR; exact ⟨by omega, errR_no (fun e => h54 (cmpQ_pos.2 e))⟩
                · first | omega | (dsimp only; omega)
                · exact subset_app (subset_cons (by repeat (first | with_reducible exact mm0 | refine mmS ?_)) (subset_cons (by repeat (first | with_reducible exact mm0 | refine mmS ?_)) subset_nil)) (ssS (ssS (ssS (ssS (ssS (ssS (ssS (ssS (ssS (ssS (ssS (ssS (ssS ss0)))))))))))))
            · refine JL_normL [_, _, _] ⟨58, [(40, _), (41, _), (42, _), (43, _), (44, _), (45, _), (46, _), (39, _), (47, _), (48, _), (49, _), (12, _), (11, _)], _⟩ [box _ _ [_, _, _], box _ _ [_, _, _], box _ _ [_, _, _], box _ _ [_, _, _]] [_, _, _, _, _, _, _, _, _, _, _, _, _] rfl rfl rfl rfl ?_
              generalize vals (0 + 1 + 1 + 1 + 1 + 1 + 1) = x46
              generalize vals (0 + 1 + 1 + 1 + 1 + 1 + 1 + 1) = x39
              generalize vals (0 + 1 + 1 + 1 + 1 + 1 + 1 + 1 + 1) = x47
              generalize vals (0 + 1 + 1 + 1 + 1 + 1 + 1 + 1 + 1 + 1) = x48
              generalize vals (0 + 1 + 1 + 1 + 1 + 1 + 1 + 1 + 1 + 1 + 1) = x49
              generalize bs (0 + 1 + 1 + 1 + 1 + 1 + 1 + 1 + 1 + 1 + 1 + 1) = b12
              generalize vals (0 + 1 + 1 + 1 + 1 + 1 + 1 + 1 + 1 + 1 + 1 + 1 + 1) = x11
              refine JL_usePost (mmS mm0) (fun φo hP => ?_)
              obtain ⟨ad39, cp39, be39, ce39, rfl, rfl⟩ := hP
              refine JL_norm _ [box _ _ [_, _, _], box _ _ [_, _, _], box _ _ [_, _, _], box _ _ [_, _, _]] [_, _, _, _, _, _, _, _, _, _, _, _, _, _, _] rfl rfl rfl ?_
              refine JL_usePost (mmS (mmS (mmS (mmS (mmS mm0))))) (fun φo hP => ?_)
              obtain ⟨ad48, cp48, be48, ce48, rfl, rfl⟩ := hP
              refine JL_norm _ [box _ _ [_, _, _], box _ _ [_, _, _], box _ _ [_, _, _], box _ _ [_, _, _]] [_, _, _, _, _, _, _, _, _, _, _, _, _, _, _, _, _] rfl rfl rfl ?_
              refine JL_store (vs := [_, _, _]) 3 ty26 rfl rfl rfl (AllOne.cons rfl (AllOne.cons rfl (AllOne.cons rfl AllOne.nil))) rfl (Nat.le_of_ble_eq_true rfl) ?_
              refine JL_extract rfl rfl ?_
              refine JL_assign rfl ?_
              refine JL_done_up 58 [box _ _ [_, _, _], box _ _ [_, _, _], box _ _ [_, _, _], box _ _ [_, _, _]] [_, _, _, _, _, _, _, _, _, _, _, _, _, _, _, _, _] rfl rfl (by simp only [nrmF]; rfl) rfl rfl ?_
              refine JC_seq ?_
              refine JC_drawT mixed 3 [spV 50 [] _, spC 51 [0] _, spV 52 [] _] ⟨OblS_V (fun vals ex ψ => (by
                  refine JL_normQ ⟨58, [(50, _), (51, _), (52, _)], _⟩ (_ :: _ :: _ :: _ :: _ :: _ :: _ :: _ :: _ :: _ :: _ :: _ :: _ :: _ :: _ :: _ :: _ :: ψ) rfl rfl ?_
                  refine JL_loadA (vs := [_, _, _]) 3 ty26 rfl rfl ⟨rfl, rfl, rfl, trivial⟩ ?_
                  exact JL_nil (JE_stepV rfl ss0))), OblS_C (fun vals ex ψ => (by
                  refine JL_normQ ⟨58, [(50, _), (51, _), (52, _)], _⟩ (_ :: _ :: _ :: _ :: _ :: _ :: _ :: _ :: _ :: _ :: _ :: _ :: _ :: _ :: _ :: _ :: _ :: ψ) rfl rfl ?_
                  refine JL_callF' (Asks.cons (holds_of_mem (by repeat (first | with_reducible exact mm0 | refine mmS ?_))) (Asks.cons (holds_of_mem (by repeat (first | with_reducible exact mm0 | refine mmS ?_))) Asks.nil)) (rsize_con (FIn.some (hqo.mono (by decide)))) rfl ca41 ⟨rfl, rfl⟩ ?_
                  exact fun v φo hP => JL_nil (JE_stepC φo rfl hP (fun p hp => mapB_l hp) (fun p hp => mapB_r (ss0 p hp))))), OblS_V (fun vals ex ψ => (by
                  refine JL_normQ ⟨58, [(50, _), (51, _), (52, _)], _⟩ (_ :: _ :: _ :: _ :: _ :: _ :: _ :: _ :: _ :: _ :: _ :: _ :: _ :: _ :: _ :: _ :: _ :: ψ) rfl rfl ?_
                  refine JL_loadA (vs := [_, _, _]) 2 ty26 rfl rfl ⟨rfl, rfl, rfl, trivial⟩ ?_
                  exact JL_nil (JE_stepV rfl ss0))), trivial⟩ (by kernel_rfl) (fun vals bs => ?_)
              refine JL_normL [_, _] ⟨58, [(50, _), (51, _), (52, _)], _⟩ [box _ _ [_, _, _], box _ _ [_, _, _], box _ _ [_, _, _], box _ _ [_, _, _]] [_, _, _, _, _, _, _, _, _, _, _, _, _, _, _, _, _, _] rfl rfl rfl rfl ?_
              generalize vals (0 + 1) = x51
              refine JL_usePost mm0 (fun φo hP => ?_)
              obtain ⟨ad51, cp51, be51, ce51, rfl, rfl⟩ := hP
              refine JL_norm _ [box _ _ [_, _, _], box _ _ [_, _, _], box _ _ [_, _, _], box _ _ [_, _, _]] [_, _, _, _, _, _, _, _, _, _, _, _, _, _, _, _, _, _, _, _] rfl rfl rfl ?_
              refine JL_callF' (Asks.cons (holds_of_mem (by repeat (first | with_reducible exact mm0 | refine mmS ?_))) (Asks.cons (holds_of_mem (by repeat (first | with_reducible exact mm0 | refine mmS ?_))) (Asks.cons (holds_of_mem (by repeat (first | with_reducible exact mm0 | refine mmS ?_))) (Asks.cons (holds_of_mem (by repeat (first | with_reducible exact mm0 | refine mmS ?_))) Asks.nil)))) (rcmpq_con (FIn.some ((qs_absq hqo).mono (by decide))) (FIn.some (hqR.mono (by decide)))) rfl ca40 ⟨rfl, rfl, rfl⟩ ?_
              rintro _ _ ⟨rfl, rfl⟩
              refine JL_gtr rfl rfl ?_
              refine JL_done_up 58 [box _ _ [_, _, _], box _ _ [_, _, _], box _ _ [_, _, _], box _ _ [_, _, _]] [_, _, _, _, _, _, _, _, _, _, _, _, _, _, _, _, _, _, _, _] rfl rfl (by simp only [nrmF]; rfl) rfl rfl ?_
              refine JC_cond rfl (fun hb => ?_) (fun hb => ?_)
              · have h54 := of_decide_eq_true hb
                refine JC_region ?_
                refine JL_loadA (vs := [_, _, _]) 3 ty26 rfl rfl ⟨rfl, rfl, rfl, trivial⟩ ?_
                refine JL_callF' (Asks.cons (holds_of_mem (by repeat (first | with_reducible exact mm0 | refine mmS ?_))) (Asks.cons (holds_of_mem (by repeat (first | with_reducible exact mm0 | refine mmS ?_))) Asks.nil)) (rsize_con (FIn.some (hqo.mono (by decide)))) rfl ca41 ⟨rfl, rfl⟩ ?_
                rintro _ _ ⟨ad56, cp56, be56, ce56, rfl, rfl⟩
                refine JL_store (vs := [_, _, _]) 2 ty26 rfl rfl rfl (AllOne.cons rfl (AllOne.cons rfl (AllOne.cons rfl AllOne.nil))) rfl (Nat.le_of_ble_eq_true rfl) ?_
                refine JL_nil_up 58 [box _ _ [_, _, _], box _ _ [_, _, _], box _ _ [_, _, _], box _ _ [_, _, _]] [_, _, _, _, _, _, _, _, _, _, _, _, _, _, _, _, _, _, _, _, _, _] rfl rfl (by simp only [nrmF]; rfl) rfl rfl ?_
                refine JE_block_normal ?_
                refine JE_then ?_
                refine JC_region ?_
                refine JL_move rfl ?_
                refine JL_add_to rfl rfl (IntWalk.i64_in _ (by omega)) ?_
                refine JL_assign rfl ?_
                refine JL_nil_up 58 [box _ _ [_, _, _], box _ _ [_, _, _], box _ _ [_, _, _], box _ _ [_, _, _]] [_, _, _, _, _, _, _, _, _, _, _, _, _, _, _, _, _, _, _, _, _, _] rfl rfl (by simp only [nrmF]; rfl) rfl rfl ?_
                refine JE_dropAt 3 ?_
                refine JE_norm _ [box _ _ [_, _, _], box _ _ [_, _, _], box _ _ [_, _, _]] [_, _, _, _, _, _, _, _, _, _, _, _, _, _, _, _, _, _, _, _, _, _] rfl rfl rfl ?_
                refine JE_nextS (i + 1, absq (offR (L.getD i 0) q1 m), ad56, cp56, be56, ce56) (by kernel_rfl) ?_ ?_ (by kernel_rfl) ?_
                · subst hR; exact ⟨by omega, errR_up (cmpQ_pos.1 h54)⟩
                · first | omega | (dsimp only; omega)
                · exact subset_app (subset_cons (by repeat (first | with_reducible exact mm0 | refine mmS ?_)) (subset_cons (by repeat (first | with_reducible exact mm0 | refine mmS ?_)) subset_nil)) (ssS (ssS (ssS (ssS (ssS (ssS (ssS (ssS (ssS (ssS (ssS (ssS (ssS (ssS (ssS (ssS (ssS ss0)))))))))))))))))
              · have h54 := of_decide_eq_false hb
                refine JC_skip ?_
                refine JE_block_normal ?_
                refine JE_then ?_
                refine JC_region ?_
                refine JL_move rfl ?_
                refine JL_add_to rfl rfl (IntWalk.i64_in _ (by omega)) ?_
                refine JL_assign rfl ?_
                refine JL_nil_up 58 [box _ _ [_, _, _], box _ _ [_, _, _], box _ _ [_, _, _], box _ _ [_, _, _]] [_, _, _, _, _, _, _, _, _, _, _, _, _, _, _, _, _, _, _, _] rfl rfl (by simp only [nrmF]; rfl) rfl rfl ?_
                refine JE_dropAt 3 ?_
                refine JE_norm _ [box _ _ [_, _, _], box _ _ [_, _, _], box _ _ [_, _, _]] [_, _, _, _, _, _, _, _, _, _, _, _, _, _, _, _, _, _, _, _] rfl rfl rfl ?_
                refine JE_nextS (i + 1, q, ad, c, be, e) (by kernel_rfl) ?_ ?_ (by kernel_rfl) ?_
                · subst hR; exact ⟨by omega, errR_no (fun e => h54 (cmpQ_pos.2 e))⟩
                · first | omega | (dsimp only; omega)
                · exact subset_app (subset_cons (by repeat (first | with_reducible exact mm0 | refine mmS ?_)) (subset_cons (by repeat (first | with_reducible exact mm0 | refine mmS ?_)) subset_nil)) (ssS (ssS (ssS (ssS (ssS (ssS (ssS (ssS (ssS (ssS (ssS (ssS (ssS (ssS (ssS ss0)))))))))))))))
          · refine JL_done_up 58 [box _ _ [_, _, _], box _ _ [_, _, _], box _ _ [_, _, _]] [_, _, _, _, _, _, _] rfl rfl (by simp only [nrmF]; rfl) rfl rfl ?_
            refine JC_false rfl ?_
            refine JC_exit ?_
            refine JE_then_exit ?_
            refine JE_nextS_exit ?_
            refine JE_block_exit ?_
            refine JE_then ?_
            refine JC_seq ?_
            refine JC_region ?_
            refine JL_loadA (vs := [_, _, _]) 2 ty26 rfl rfl ⟨rfl, rfl, rfl, trivial⟩ ?_
            refine JL_store (vs := [_, _, _]) 1 ty26 rfl rfl rfl (AllOne.cons rfl (AllOne.cons rfl (AllOne.cons rfl AllOne.nil))) rfl (Nat.le_of_ble_eq_true rfl) ?_
            refine JL_assign rfl ?_
            refine JL_done_up 58 [box _ _ [_, _, _], box _ _ [_, _, _], box _ _ [_, _, _]] [_, _, _, _, _, _, _] rfl rfl (by simp only [nrmF]; rfl) rfl rfl ?_
            refine JC_ret ?_
            have hie : i = L.length := by omega
            subst hie
            have he : errE L q1 m = 0 := errE_ok h17 hq0 (fun e => e (limE_ok h25)) (by omega)
            refine JE_ret (vs := [_, _]) [vCells ad (u32s (fnum (some (q)))), vCells be (u32s (fden (some (q))))] Tryz.results15 ⟨RV.cell (vs := [_, _, _]) 1 ty26 rfl rfl ⟨rfl, rfl, rfl, trivial⟩, rfl, rfl⟩ ?_ ?_
            · rw [errO_ok he, he, hR]; exact ⟨ad, c, be, e, rfl, rfl⟩
            · exact (all_cons (by repeat (first | with_reducible exact mm0 | refine mmS ?_)) (all_cons (by repeat (first | with_reducible exact mm0 | refine mmS ?_)) all_nil))
      · refine JL_not rfl ?_
        rw [Bool.not_false]
        refine JL_done_up 58 [box _ _ [_, _, _], box _ _ [_, _, _]] [_, _, _] rfl rfl (by simp only [nrmF]; rfl) rfl rfl ?_
        refine JC_true rfl ?_
        refine JC_seq ?_
        refine JC_region ?_
        refine JL_build (cs := [_, _, _]) [] st26 rfl rfl ?_
        refine JL_store (vs := [_, _, _]) 1 ty26 rfl rfl rfl (AllOne.cons rfl (AllOne.cons rfl (AllOne.cons rfl AllOne.nil))) rfl (Nat.le_of_ble_eq_true rfl) ?_
        refine JL_assign rfl ?_
        refine JL_done_up 58 [box _ _ [_, _, _], box _ _ [_, _, _]] [_, _, _] rfl rfl (by simp only [nrmF]; rfl) rfl rfl ?_
        refine JC_ret ?_
        refine JE_then_ret ?_
        have he : errE L q1 m ≠ 0 := by rw [errE_bad h17 (sgn_pos.1 (by omega)) h25]; first | assumption | decide
        refine JE_nilView ?_
        refine JE_ret (vs := [_, _]) [vCells none (u32s []), vCells none (u32s [])] Tryz.results15 ⟨RV.cell (vs := [_, _, _]) 1 ty26 rfl rfl ⟨rfl, rfl, rfl, trivial⟩, rfl, rfl⟩ ?_ ?_
        · rw [errO_no he, errE_bad h17 (sgn_pos.1 (by omega)) h25]; exact ⟨none, 0, none, 0, rfl, rfl⟩
        · exact (all_cons (by repeat (first | with_reducible exact mm0 | refine mmS ?_)) (all_cons (by repeat (first | with_reducible exact mm0 | refine mmS ?_)) all_nil))

set_option maxHeartbeats 1000000 in
theorem rscore_con {tol m : Int} {ad : Option Addr} {c : Nat} {L : List Int} {s1 : Bool} {ad1 : Option Addr} {n1 c1 : Nat} {L1 : List Nat} {be1 : Option Addr} {m1 e1 : Nat} {M1 : List Nat} {q1 : Rat} (g1 : FIn s1 n1 L1 m1 M1 q1 10) :
    ConF Tryz.prog 17 [.slice ad L.length c, .agg #[.bool s1, .slice ad1 n1 c1, .slice be1 m1 e1], .int .i64 tol, .int .i64 m] [vCells ad (i64s L), vCells ad1 (u32s L1), vCells be1 (u32s M1)]
      (fun v φo => v = .tuple #[.int .i64 (scoK L q1 tol m), .int .i64 (scoE L q1 tol m)] ∧ φo = []) := by
  refine ConF_of Tryz.func17 rfl 42 _ rfl rfl ?_
  intro w0
  refine JC_norm ⟨42, [], [_, _, _, _, _, _, _, _, _, _, _, _, _, _, _, _, _, _, _, _, _, _, _, _, _, _, _, _, _, _, _, _, _, _, _, _, _, _, _, _, _, _]⟩ [] [_, _, _] rfl rfl rfl ?_
  refine JC_seq ?_
  refine JC_region ?_
  refine JL_box rfl rfl (fun b5 => ?_)
  refine JL_assign rfl ?_
  refine JL_assign rfl ?_
  refine JL_done_up 42 [box _ _ [_, _, _]] [_, _, _] rfl rfl (by simp only [nrmF]; rfl) rfl rfl ?_
  refine JC_seq ?_
  refine JC_seq ?_
  refine JC_region ?_
  refine JL_move rfl ?_
  refine JL_callF' (Asks.cons (holds_of_mem (by repeat (first | with_reducible exact mm0 | refine mmS ?_))) Asks.nil) (rcheck_con) rfl ca46 ⟨rfl, rfl⟩ ?_
  rintro _ _ ⟨rfl, rfl⟩
  refine JL_assign rfl ?_
  refine JL_done_up 42 [box _ _ [_, _, _]] [_, _, _] rfl rfl (by simp only [nrmF]; rfl) rfl rfl ?_
  refine JC_seq ?_
  refine JC_region ?_
  refine JL_move rfl ?_
  refine JL_neq rfl rfl ?_
  refine JL_split (fun h16 => ?_) (fun h16 => ?_)
  · refine JL_done_up 42 [box _ _ [_, _, _]] [_, _, _] rfl rfl (by simp only [nrmF]; rfl) rfl rfl ?_
    refine JC_true rfl ?_
    refine JC_seq ?_
    refine JC_region ?_
    refine JL_move rfl ?_
    refine JL_assign rfl ?_
    refine JL_assign rfl ?_
    refine JL_done_up 42 [box _ _ [_, _, _]] [_, _, _] rfl rfl (by simp only [nrmF]; rfl) rfl rfl ?_
    refine JC_ret ?_
    refine JE_then_ret ?_
    have he : scoE L q1 tol m ≠ 0 := by rw [scoE_chk h16]; first | assumption | decide
    refine JE_ret (vs := [_, _]) [] Tryz.results17 ⟨rfl, rfl, rfl⟩ ?_ ?_
    · rw [scoK_no he, scoE_chk h16]; exact ⟨rfl, rfl⟩
    · exact all_nil
  · refine JL_done_up 42 [box _ _ [_, _, _]] [_, _, _] rfl rfl (by simp only [nrmF]; rfl) rfl rfl ?_
    refine JC_false rfl ?_
    refine JC_skip ?_
    refine JE_then ?_
    refine JC_seq ?_
    refine JC_seq ?_
    refine JC_region ?_
    refine JL_loadA (vs := [_, _, _]) 0 ty26 rfl rfl ⟨rfl, rfl, rfl, trivial⟩ ?_
    refine JL_callF' (Asks.cons (holds_of_mem (by repeat (first | with_reducible exact mm0 | refine mmS ?_))) (Asks.cons (holds_of_mem (by repeat (first | with_reducible exact mm0 | refine mmS ?_))) Asks.nil)) (rsign_con (g1.mono (by decide))) rfl ca35 ⟨rfl, rfl⟩ ?_
    rintro _ _ ⟨rfl, rfl⟩
    refine JL_leq rfl rfl ?_
    refine JL_split (fun h20 => ?_) (fun h20 => ?_)
    · refine JL_done_up 42 [box _ _ [_, _, _]] [_, _, _] rfl rfl (by simp only [nrmF]; rfl) rfl rfl ?_
      refine JC_true rfl ?_
      refine JC_seq ?_
      refine JC_region ?_
      refine JL_assign rfl ?_
      refine JL_assign rfl ?_
      refine JL_done_up 42 [box _ _ [_, _, _]] [_, _, _] rfl rfl (by simp only [nrmF]; rfl) rfl rfl ?_
      refine JC_ret ?_
      refine JE_then_ret ?_
      have he : scoE L q1 tol m ≠ 0 := by rw [scoE_unit h16 (fun e => absurd (sgn_pos.2 e) (by omega))]; first | assumption | decide
      refine JE_ret (vs := [_, _]) [] Tryz.results17 ⟨rfl, rfl, rfl⟩ ?_ ?_
      · rw [scoK_no he, scoE_unit h16 (fun e => absurd (sgn_pos.2 e) (by omega))]; exact ⟨rfl, rfl⟩
      · exact all_nil
    · refine JL_done_up 42 [box _ _ [_, _, _]] [_, _, _] rfl rfl (by simp only [nrmF]; rfl) rfl rfl ?_
      refine JC_false rfl ?_
      refine JC_skip ?_
      refine JE_then ?_
      refine JC_seq ?_
      refine JC_seq ?_
      refine JC_region ?_
      refine JL_move rfl ?_
      refine JL_move rfl ?_
      refine JL_callF' Asks.nil (rlim_con) rfl ca36 ⟨rfl, rfl, rfl⟩ ?_
      rintro _ _ ⟨rfl, rfl⟩
      refine JL_split (fun h23 => ?_) (fun h23 => ?_)
      · refine JL_not rfl ?_
        rw [Bool.not_true]
        refine JL_done_up 42 [box _ _ [_, _, _]] [_, _, _] rfl rfl (by simp only [nrmF]; rfl) rfl rfl ?_
        refine JC_false rfl ?_
        refine JC_skip ?_
        refine JE_then ?_
        refine JC_seq ?_
        obtain ⟨hn64, hws⟩ := chkE_zero (Classical.byContradiction h16)
        refine JC_region ?_
        refine JL_assign rfl ?_
        refine JL_done_up 42 [box _ _ [_, _, _]] [_, _, _] rfl rfl (by simp only [nrmF]; rfl) rfl rfl ?_
        refine JC_seq ?_
        refine JC_seq ?_
        refine JC_region ?_
        refine JL_assign rfl ?_
        refine JL_done_up 42 [box _ _ [_, _, _]] [_, _, _] rfl rfl (by simp only [nrmF]; rfl) rfl rfl ?_
        refine JC_block ?_
        refine JC_loopS ((Nat) × (Int)) (fun (i, n) => i ≤ L.length ∧ scoN L q1 tol m i = n) (fun (i, n) => L.length - i) (fun u (i, n) => [none, none, none, none, none, none, none, none, none, none, none, some (.int .i64 n), some (.int .i64 (i : Nat)), none, none, none, none, none, none, none, none, none, none, none, none, some (u 25), some (u 26), some (u 27), some (u 28), some (u 29), some (u 30), some (u 31), some (u 32), some (u 33), some (u 34), some (u 35), some (u 36), some (u 37), some (u 38), some (u 39), some (u 40), none]) (fun (i, n) => [none]) (fun (i, n) => []) (0, 0) (by kernel_rfl) ?_ (by kernel_rfl) ?_ ?_
        · exact ⟨Nat.zero_le _, rfl⟩
        · exact subset_nil
        intro u i hC
        obtain ⟨i, n⟩ := i
        obtain ⟨hi, hN⟩ := hC
        refine JC_norm ⟨42, [], [_, _, _, _, _, _, _, _, _, _, _, _, _, _, _, _, _, _, _, _, _, _, _, _, _, _, _, _, _, _, _, _, _, _, _, _, _, _, _, _, _, _]⟩ [box _ _ [_, _, _]] [_, _, _] rfl rfl rfl ?_
        refine JC_seq ?_
        refine JC_seq ?_
        refine JC_region ?_
        refine JL_move rfl ?_
        refine JL_move rfl ?_
        refine JL_len sl37 rfl ?_
        refine JL_lss rfl rfl ?_
        refine JL_split (fun h28 => ?_) (fun h28 => ?_)
        · refine JL_done_up 42 [box _ _ [_, _, _]] [_, _, _] rfl rfl (by simp only [nrmF]; rfl) rfl rfl ?_
          refine JC_true rfl ?_
          refine JC_skip ?_
          refine JE_then ?_
          refine JC_seq ?_
          refine JC_block ?_
          refine JC_seq ?_
          have hnb := scoN_in L q1 tol m i
          refine JC_drawT mixed 7 [spV 31 [] _, spV 32 [] _, spV 33 [0, 1] _, spV 34 [2] _, spV 35 [] _, spV 36 [] _, spV 37 [] _] ⟨OblS_V (fun vals ex ψ => (by
              refine JL_normQ ⟨42, [(31, _), (32, _), (33, _), (34, _), (35, _), (36, _), (37, _)], _⟩ (_ :: _ :: _ :: ψ) rfl rfl ?_
              refine JL_move rfl ?_
              exact JL_nil (JE_stepV rfl ss0))), OblS_V (fun vals ex ψ => (by
              refine JL_normQ ⟨42, [(31, _), (32, _), (33, _), (34, _), (35, _), (36, _), (37, _)], _⟩ (_ :: _ :: _ :: ψ) rfl rfl ?_
              refine JL_move rfl ?_
              exact JL_nil (JE_stepV rfl ss0))), OblS_V (fun vals ex ψ => (by
              refine JL_normQ ⟨42, [(31, _), (32, _), (33, _), (34, _), (35, _), (36, _), (37, _)], _⟩ (_ :: _ :: _ :: ψ) rfl rfl ?_
              refine JL_idx i sl37 rfl rfl rfl (by omega) (by first | exact Reads.view (by repeat (first | with_reducible exact mm0 | refine mmS ?_))) (by first | (rw [u32s_length]; omega) | (rw [i64s_length]; omega)) ?_
              exact JL_nil (JE_stepV rfl ss0))), OblS_V (fun vals ex ψ => (by
              refine JL_normQ ⟨42, [(31, _), (32, _), (33, _), (34, _), (35, _), (36, _), (37, _)], _⟩ (_ :: _ :: _ :: ψ) rfl rfl ?_
              refine JL_loadE ty3 rfl (by first | exact Reads.view (by repeat (first | with_reducible exact mm0 | refine mmS ?_))) (i64s_get (by omega)) ?_
              exact JL_nil (JE_stepV rfl ss0))), OblS_V (fun vals ex ψ => (by
              refine JL_normQ ⟨42, [(31, _), (32, _), (33, _), (34, _), (35, _), (36, _), (37, _)], _⟩ (_ :: _ :: _ :: ψ) rfl rfl ?_
              refine JL_loadA (vs := [_, _, _]) 0 ty26 rfl rfl ⟨rfl, rfl, rfl, trivial⟩ ?_
              exact JL_nil (JE_stepV rfl ss0))), OblS_V (fun vals ex ψ => (by
              refine JL_normQ ⟨42, [(31, _), (32, _), (33, _), (34, _), (35, _), (36, _), (37, _)], _⟩ (_ :: _ :: _ :: ψ) rfl rfl ?_
              refine JL_move rfl ?_
              exact JL_nil (JE_stepV rfl ss0))), OblS_V (fun vals ex ψ => (by
              refine JL_normQ ⟨42, [(31, _), (32, _), (33, _), (34, _), (35, _), (36, _), (37, _)], _⟩ (_ :: _ :: _ :: ψ) rfl rfl ?_
              refine JL_move rfl ?_
              exact JL_nil (JE_stepV rfl ss0))), trivial⟩ (by kernel_rfl) (fun vals bs => ?_)
          refine JL_normL [_] ⟨42, [(31, _), (32, _), (33, _), (34, _), (35, _), (36, _), (37, _)], _⟩ [box _ _ [_, _, _]] [_, _, _] rfl rfl rfl rfl ?_
          refine JL_callF' (Asks.cons (holds_of_mem (by repeat (first | with_reducible exact mm0 | refine mmS ?_))) (Asks.cons (holds_of_mem (by repeat (first | with_reducible exact mm0 | refine mmS ?_))) Asks.nil)) (rfits_con (w := L.getD i 0) g1) rfl ca12 ⟨rfl, rfl, rfl, rfl, rfl⟩ ?_
          rintro _ _ ⟨rfl, rfl⟩
          refine JL_splitV (fun h38 => ?_) (fun h38 => ?_)
          · refine JL_done_up 42 [box _ _ [_, _, _]] [_, _, _] rfl rfl (by simp only [nrmF]; rfl) rfl rfl ?_
            refine JC_true rfl ?_
            refine JC_region ?_
            refine JL_move rfl ?_
            refine JL_add_to rfl rfl (IntWalk.i64_in _ (by omega)) ?_
            refine JL_assign rfl ?_
            refine JL_nil_up 42 [box _ _ [_, _, _]] [_, _, _] rfl rfl (by simp only [nrmF]; rfl) rfl rfl ?_
            refine JE_block_normal ?_
            refine JE_then ?_
            refine JC_region ?_
            refine JL_move rfl ?_
            refine JL_add_to rfl rfl (IntWalk.i64_in _ (by omega)) ?_
            refine JL_assign rfl ?_
            refine JL_nil_up 42 [box _ _ [_, _, _]] [_, _, _] rfl rfl (by simp only [nrmF]; rfl) rfl rfl ?_
            refine JE_nextS (i + 1, n + 1) (by kernel_rfl) ?_ ?_ (by kernel_rfl) ?_
            · subst hN; exact ⟨by omega, scoN_hit h38⟩
            · first | omega | (dsimp only; omega)
            · exact subset_app subset_nil ss0
          · refine JL_done_up 42 [box _ _ [_, _, _]] [_, _, _] rfl rfl (by simp only [nrmF]; rfl) rfl rfl ?_
            refine JC_false rfl ?_
            refine JC_skip ?_
            refine JE_block_normal ?_
            refine JE_then ?_
            refine JC_region ?_
            refine JL_move rfl ?_
            refine JL_add_to rfl rfl (IntWalk.i64_in _ (by omega)) ?_
            refine JL_assign rfl ?_
            refine JL_nil_up 42 [box _ _ [_, _, _]] [_, _, _] rfl rfl (by simp only [nrmF]; rfl) rfl rfl ?_
            refine JE_nextS (i + 1, n) (by kernel_rfl) ?_ ?_ (by kernel_rfl) ?_
            · subst hN; exact ⟨by omega, scoN_miss (ne_true_of_eq_false h38)⟩
            · first | omega | (dsimp only; omega)
            · exact subset_app subset_nil ss0
        · refine JL_done_up 42 [box _ _ [_, _, _]] [_, _, _] rfl rfl (by simp only [nrmF]; rfl) rfl rfl ?_
          refine JC_false rfl ?_
          refine JC_exit ?_
          refine JE_then_exit ?_
          refine JE_nextS_exit ?_
          refine JE_block_exit ?_
          refine JE_then ?_
          refine JC_seq ?_
          refine JC_region ?_
          refine JL_move rfl ?_
          refine JL_assign rfl ?_
          refine JL_assign rfl ?_
          refine JL_done_up 42 [box _ _ [_, _, _]] [_, _, _] rfl rfl (by simp only [nrmF]; rfl) rfl rfl ?_
          refine JC_ret ?_
          have hie : i = L.length := by omega
          subst hie
          have he : scoE L q1 tol m = 0 := by rw [scoE_lim h16 (sgn_pos.1 (by omega))]; exact limE_ok h23
          refine JE_ret (vs := [_, _]) [] Tryz.results17 ⟨rfl, rfl, rfl⟩ ?_ ?_
          · rw [scoK_ok he, he, hN]; exact ⟨rfl, rfl⟩
          · exact all_nil
      · refine JL_not rfl ?_
        rw [Bool.not_false]
        refine JL_done_up 42 [box _ _ [_, _, _]] [_, _, _] rfl rfl (by simp only [nrmF]; rfl) rfl rfl ?_
        refine JC_true rfl ?_
        refine JC_seq ?_
        refine JC_region ?_
        refine JL_assign rfl ?_
        refine JL_assign rfl ?_
        refine JL_done_up 42 [box _ _ [_, _, _]] [_, _, _] rfl rfl (by simp only [nrmF]; rfl) rfl rfl ?_
        refine JC_ret ?_
        refine JE_then_ret ?_
        have he : scoE L q1 tol m ≠ 0 := by rw [scoE_bad h16 (sgn_pos.1 (by omega)) h23]; first | assumption | decide
        refine JE_ret (vs := [_, _]) [] Tryz.results17 ⟨rfl, rfl, rfl⟩ ?_ ?_
        · rw [scoK_no he, scoE_bad h16 (sgn_pos.1 (by omega)) h23]; exact ⟨rfl, rfl⟩
        · exact all_nil

end Go.Fw.K
