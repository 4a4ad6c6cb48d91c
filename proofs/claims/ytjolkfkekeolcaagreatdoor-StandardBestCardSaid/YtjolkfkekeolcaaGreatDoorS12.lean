/- Walks through functions of the given program: each meets its contract. (Printed by a program of this repo.) -/
import Derived.Test.YtjolkfkekeolcaaGreatDoorS11
import Derived.Test.YtjolkfkekeolcaaGreatDoorProg
namespace Go.Fw.S12
open Go Go.RowKit Go.Proofs Go.Nat9 Go.Fw
attribute [local irreducible] JC JL JE
theorem ca34 : callable Tryz.prog 34 = true := by kernel_rfl
theorem ca35 : callable Tryz.prog 35 = true := by kernel_rfl
theorem ca36 : callable Tryz.prog 36 = true := by kernel_rfl
theorem ca37 : callable Tryz.prog 37 = true := by kernel_rfl
theorem ca38 : callable Tryz.prog 38 = true := by kernel_rfl
theorem ca39 : callable Tryz.prog 39 = true := by kernel_rfl
theorem ca40 : callable Tryz.prog 40 = true := by kernel_rfl
theorem ca41 : callable Tryz.prog 41 = true := by kernel_rfl
theorem mixed : Tryz.prog.follows .mixedOrders = true := by kernel_rfl
theorem st26 : stOf Tryz.prog 26 = some ([(0, 1), (1, 1), (2, 1)], [.bool false, .slice none 0 0, .slice none 0 0]) := by kernel_rfl
theorem ty26 : tyOf Tryz.prog 26 = some (true, 3) := by kernel_rfl
theorem z26 : zeroOf Tryz.prog 26 = some [.bool false, .slice none 0 0, .slice none 0 0] := by kernel_rfl
end Go.Fw.S12
namespace Go.Fw.K
open Go Go.RowKit Go.Proofs Go.Nat9 Go.Fw Go.Fw.S12
attribute [local irreducible] JC JL JE

set_option maxHeartbeats 1000000 in
theorem rmult_con {w m : Int} {s1 : Bool} {ad1 : Option Addr} {n1 c1 : Nat} {L1 : List Nat} {be1 : Option Addr} {m1 e1 : Nat} {M1 : List Nat} {q1 : Rat} (g1 : FIn s1 n1 L1 m1 M1 q1 4) :
    ConF Tryz.prog 10 [.int .i64 w, .agg #[.bool s1, .slice ad1 n1 c1, .slice be1 m1 e1], .int .i64 m] [vCells ad1 (u32s L1), vCells be1 (u32s M1)]
      (MUL (mulK w q1 m) (mulO w q1 m) (mulE w q1 m)) := by
  have hu := g1.qs
  refine ConF_of Tryz.func10 rfl 52 _ rfl rfl ?_
  intro w0
  refine JC_norm ⟨52, [], [_, _, _, _, _, _, _, _, _, _, _, _, _, _, _, _, _, _, _, _, _, _, _, _, _, _, _, _, _, _, _, _, _, _, _, _, _, _, _, _, _, _, _, _, _, _, _, _, _, _, _, _]⟩ [] [_, _] rfl rfl rfl ?_
  refine JC_seq ?_
  refine JC_region ?_
  refine JL_box rfl rfl (fun b4 => ?_)
  refine JL_assign rfl ?_
  refine JL_alloc z26 (fun b7 => ?_)
  refine JL_assign rfl ?_
  refine JL_done_up 52 [box _ _ [_, _, _], box _ _ [_, _, _]] [_, _] rfl rfl (by simp only [nrmF]; rfl) rfl rfl ?_
  refine JC_seq ?_
  refine JC_seq ?_
  refine JC_region ?_
  refine JL_move rfl ?_
  refine JL_callF' Asks.nil (rwt_con) rfl ca34 ⟨rfl, rfl⟩ ?_
  rintro _ _ ⟨rfl, rfl⟩
  refine JL_split (fun h14 => ?_) (fun h14 => ?_)
  · refine JL_not rfl ?_
    rw [Bool.not_true]
    refine JL_move rfl ?_
    refine JL_guard_yes rfl rfl ?_
    refine JL_loadA (vs := [_, _, _]) 0 ty26 rfl rfl ⟨rfl, rfl, rfl, trivial⟩ ?_
    refine JL_guard_yes rfl rfl ?_
    refine JL_callF' (Asks.cons (holds_of_mem (by repeat (first | with_reducible exact mm0 | refine mmS ?_))) (Asks.cons (holds_of_mem (by repeat (first | with_reducible exact mm0 | refine mmS ?_))) Asks.nil)) (rsign_con (g1.mono (by decide))) rfl ca35 ⟨rfl, rfl⟩ ?_
    rintro _ _ ⟨rfl, rfl⟩
    refine JL_guard_yes rfl rfl ?_
    refine JL_leq rfl rfl ?_
    refine JL_split (fun h19 => ?_) (fun h19 => ?_)
    · refine JL_pick_f rfl rfl ?_
      refine JL_done_up 52 [box _ _ [_, _, _], box _ _ [_, _, _]] [_, _] rfl rfl (by simp only [nrmF]; rfl) rfl rfl ?_
      refine JC_true rfl ?_
      refine JC_seq ?_
      refine JC_region ?_
      refine JL_build (cs := [_, _, _]) [] st26 rfl rfl ?_
      refine JL_assign rfl ?_
      refine JL_store (vs := [_, _, _]) 1 ty26 rfl rfl rfl (AllOne.cons rfl (AllOne.cons rfl (AllOne.cons rfl AllOne.nil))) rfl (Nat.le_of_ble_eq_true rfl) ?_
      refine JL_assign rfl ?_
      refine JL_done_up 52 [box _ _ [_, _, _], box _ _ [_, _, _]] [_, _] rfl rfl (by simp only [nrmF]; rfl) rfl rfl ?_
      refine JC_ret ?_
      refine JE_then_ret ?_
      have he : mulE w q1 m = 1 := mulE_bad (by first | exact .inl h14 | exact .inr h19)
      refine JE_nilView ?_
      refine JE_ret (vs := [_, _, _]) [vCells none (u32s []), vCells none (u32s [])] Tryz.results10 ⟨rfl, RV.cell (vs := [_, _, _]) 1 ty26 rfl rfl ⟨rfl, rfl, rfl, trivial⟩, rfl, rfl⟩ ?_ ?_
      · rw [mulK_no (by rw [he]; decide), mulO_no (by rw [he]; decide), he]; exact ⟨none, 0, none, 0, rfl, rfl⟩
      · exact (all_cons (by repeat (first | with_reducible exact mm0 | refine mmS ?_)) (all_cons (by repeat (first | with_reducible exact mm0 | refine mmS ?_)) all_nil))
    · refine JL_pick_f rfl rfl ?_
      refine JL_done_up 52 [box _ _ [_, _, _], box _ _ [_, _, _]] [_, _] rfl rfl (by simp only [nrmF]; rfl) rfl rfl ?_
      refine JC_false rfl ?_
      refine JC_skip ?_
      refine JE_then ?_
      refine JC_seq ?_
      refine JC_seq ?_
      refine JC_region ?_
      refine JL_move rfl ?_
      refine JL_callF' Asks.nil (rlim_con (tol := 0)) rfl ca36 ⟨rfl, rfl, rfl⟩ ?_
      rintro _ _ ⟨rfl, rfl⟩
      refine JL_split (fun h23 => ?_) (fun h23 => ?_)
      · refine JL_not rfl ?_
        rw [Bool.not_true]
        refine JL_done_up 52 [box _ _ [_, _, _], box _ _ [_, _, _]] [_, _] rfl rfl (by simp only [nrmF]; rfl) rfl rfl ?_
        refine JC_false rfl ?_
        refine JC_skip ?_
        refine JE_then ?_
        refine JC_seq ?_
        have hm := h23.2
        have hw := h14
        obtain ⟨hw1, hw2⟩ := hw
        have hqw : qs (ofq w 1) 3 := qs_ofi (by omega)
        refine JC_region ?_
        refine JL_build (cs := [_, _, _]) [] st26 rfl rfl ?_
        refine JL_alloc z26 (fun b10 => ?_)
        refine JL_assign rfl ?_
        refine JL_store (vs := [_, _, _]) 2 ty26 rfl rfl rfl (AllOne.cons rfl (AllOne.cons rfl (AllOne.cons rfl AllOne.nil))) rfl (Nat.le_of_ble_eq_true rfl) ?_
        refine JL_done_up 52 [box _ _ [_, _, _], box _ _ [_, _, _], box _ _ [_, _, _]] [_, _] rfl rfl (by simp only [nrmF]; rfl) rfl rfl ?_
        refine JC_seq ?_
        refine JC_seq ?_
        refine JC_region ?_
        refine JL_assign rfl ?_
        refine JL_done_up 52 [box _ _ [_, _, _], box _ _ [_, _, _], box _ _ [_, _, _]] [_, _] rfl rfl (by simp only [nrmF]; rfl) rfl rfl ?_
        refine JC_block ?_
        refine JC_addView (f := true) (p := vCells none (u32s (fnum (none : Option Rat)))) (fun _ _ => nil_view) ?_
        refine JC_addView (f := true) (p := vCells none (u32s (fden (none : Option Rat)))) (fun _ _ => nil_view) ?_
        refine JC_loopS ((Nat) × (Int) × (Option Rat) × (Option Addr) × (Nat) × (Option Addr) × (Nat)) (fun (i, k0, o, ad, c, be, e) => i ≤ m.toNat ∧ rmR w q1 i = (k0, o)) (fun (i, k0, o, ad, c, be, e) => m.toNat - i) (fun u (i, k0, o, ad, c, be, e) => [none, none, none, none, none, none, none, none, none, some (.int .i64 k0), none, some (.int .i64 ((i + 1 : Nat) : Int)), some (u 12), none, none, none, none, none, none, none, none, none, none, none, none, none, none, some (u 27), some (u 28), some (u 29), some (u 30), some (u 31), some (u 32), some (u 33), some (u 34), some (u 35), some (u 36), some (u 37), some (u 38), some (u 39), some (u 40), some (u 41), some (u 42), some (u 43), some (u 44), some (u 45), some (u 46), some (u 47), some (u 48), some (u 49), none, none]) (fun (i, k0, o, ad, c, be, e) => [none, none, some (box b10 26 [.bool (fneg (o)), .slice ad (fnum (o)).length c, .slice be (fden (o)).length e])]) (fun (i, k0, o, ad, c, be, e) => [(true, vCells ad (u32s (fnum (o)))), (true, vCells be (u32s (fden (o))))]) (0, 0, (none : Option Rat), none, 0, none, 0) (by kernel_rfl) ?_ (by kernel_rfl) ?_ ?_
        · exact ⟨by omega, rfl⟩
        · exact (subset_cons (by repeat (first | with_reducible exact mm0 | refine mmS ?_)) (subset_cons (by repeat (first | with_reducible exact mm0 | refine mmS ?_)) subset_nil))
        intro u i hC
        obtain ⟨i, k0, o, ad, c, be, e⟩ := i
        obtain ⟨hi, hR⟩ := hC
        refine JC_norm ⟨52, [], [_, _, _, _, _, _, _, _, _, _, _, _, _, _, _, _, _, _, _, _, _, _, _, _, _, _, _, _, _, _, _, _, _, _, _, _, _, _, _, _, _, _, _, _, _, _, _, _, _, _, _, _]⟩ [box _ _ [_, _, _], box _ _ [_, _, _], box _ _ [_, _, _]] [_, _, _, _, _, _] rfl rfl rfl ?_
        refine JC_seq ?_
        refine JC_seq ?_
        refine JC_region ?_
        refine JL_move rfl ?_
        refine JL_move rfl ?_
        refine JL_leq rfl rfl ?_
        refine JL_split (fun h29 => ?_) (fun h29 => ?_)
        · refine JL_done_up 52 [box _ _ [_, _, _], box _ _ [_, _, _], box _ _ [_, _, _]] [_, _, _, _, _, _] rfl rfl (by simp only [nrmF]; rfl) rfl rfl ?_
          refine JC_true rfl ?_
          refine JC_skip ?_
          refine JE_then ?_
          refine JC_seq ?_
          refine JC_block ?_
          refine JC_seq ?_
          have hqk : qs (ofq ((i + 1 : Nat) : Int) 1) 3 := qs_ofi (by omega)
          have hqkq : qs (ofq ((i + 1 : Nat) : Int) 1 * q1) 8 := hqk.mul hu (Nat.le_refl 8)
          have hqX : qs (ofq w 1 - ofq ((i + 1 : Nat) : Int) 1 * q1) 12 := hqw.sub hqkq (by decide)
          refine JC_drawT mixed 7 [spV 32 [] _, spC 33 [0] _, spV 34 [] _, spV 35 [] _, spC 36 [2, 3] _, spC 37 [1, 4] _, spA 12 26 [.bool false, .slice none 0 0, .slice none 0 0]] ⟨OblS_V (fun vals ex ψ => (by
              refine JL_normQ ⟨52, [(32, _), (33, _), (34, _), (35, _), (36, _), (37, _), (12, _)], _⟩ (_ :: _ :: _ :: _ :: _ :: _ :: ψ) rfl rfl ?_
              refine JL_move rfl ?_
              exact JL_nil (JE_stepV rfl ss0))), OblS_C (fun vals ex ψ => (by
              refine JL_normQ ⟨52, [(32, _), (33, _), (34, _), (35, _), (36, _), (37, _), (12, _)], _⟩ (_ :: _ :: _ :: _ :: _ :: _ :: ψ) rfl rfl ?_
              refine JL_callF' Asks.nil (rofi_con w 1 (by omega) (by omega)) rfl ca38 ⟨rfl, rfl, rfl⟩ ?_
              exact fun v φo hP => JL_nil (JE_stepC φo rfl hP (fun p hp => mapB_l hp) (fun p hp => mapB_r (ss0 p hp))))), OblS_V (fun vals ex ψ => (by
              refine JL_normQ ⟨52, [(32, _), (33, _), (34, _), (35, _), (36, _), (37, _), (12, _)], _⟩ (_ :: _ :: _ :: _ :: _ :: _ :: ψ) rfl rfl ?_
              refine JL_move rfl ?_
              exact JL_nil (JE_stepV rfl ss0))), OblS_V (fun vals ex ψ => (by
              refine JL_normQ ⟨52, [(32, _), (33, _), (34, _), (35, _), (36, _), (37, _), (12, _)], _⟩ (_ :: _ :: _ :: _ :: _ :: _ :: ψ) rfl rfl ?_
              refine JL_loadA (vs := [_, _, _]) 0 ty26 rfl rfl ⟨rfl, rfl, rfl, trivial⟩ ?_
              exact JL_nil (JE_stepV rfl ss0))), OblS_C (fun vals ex ψ => (by
              refine JL_normQ ⟨52, [(32, _), (33, _), (34, _), (35, _), (36, _), (37, _), (12, _)], _⟩ (_ :: _ :: _ :: _ :: _ :: _ :: ψ) rfl rfl ?_
              refine JL_callF' (Asks.cons (holds_of_mem (by repeat (first | with_reducible exact mm0 | refine mmS ?_))) (Asks.cons (holds_of_mem (by repeat (first | with_reducible exact mm0 | refine mmS ?_))) Asks.nil)) (rtimes_con ((i + 1 : Nat) : Int) (by omega) (g1.mono (by decide))) rfl ca39 ⟨rfl, rfl, rfl⟩ ?_
              exact fun v φo hP => JL_nil (JE_stepC φo rfl hP (fun p hp => mapB_l hp) (fun p hp => mapB_r (ss0 p hp))))), OblS_C (fun vals ex ψ => (by
              refine JL_normQ ⟨52, [(32, _), (33, _), (34, _), (35, _), (36, _), (37, _), (12, _)], _⟩ (_ :: _ :: _ :: _ :: _ :: _ :: _ :: _ :: ψ) rfl rfl ?_
              generalize vals 1 = x33
              refine JL_usePost mm0 (fun φo hP => ?_)
              obtain ⟨ad33, cp33, be33, ce33, rfl, rfl⟩ := hP
              refine JL_norm _ _ (_ :: _ :: _ :: _ :: _ :: _ :: _ :: _ :: _ :: _ :: ψ) rfl rfl rfl ?_
              generalize vals 4 = x36
              refine JL_usePost (mmS (mmS (mmS mm0))) (fun φo hP => ?_)
              obtain ⟨ad36, cp36, be36, ce36, rfl, rfl⟩ := hP
              refine JL_norm _ _ (_ :: _ :: _ :: _ :: _ :: _ :: _ :: _ :: _ :: _ :: _ :: _ :: ψ) rfl rfl rfl ?_
              refine JL_callF' (Asks.cons (holds_of_mem (by repeat (first | with_reducible exact mm0 | refine mmS ?_))) (Asks.cons (holds_of_mem (by repeat (first | with_reducible exact mm0 | refine mmS ?_))) (Asks.cons (holds_of_mem (by repeat (first | with_reducible exact mm0 | refine mmS ?_))) (Asks.cons (holds_of_mem (by repeat (first | with_reducible exact mm0 | refine mmS ?_))) Asks.nil)))) (rsubq_con (FIn.some (hqw.mono (by decide))) (FIn.some (hqkq.mono (by decide)))) rfl ca37 ⟨rfl, rfl, rfl⟩ ?_
              exact fun v φo hP => JL_nil (JE_stepC φo rfl hP (fun p hp => mapB_l hp) (fun p hp => mapB_r ((ssS (ssS (ssS (ssS ss0)))) p hp))))), OblS_al rfl z26, trivial⟩ (by kernel_rfl) (fun vals bs => ?_)
          refine JL_normL [_] ⟨52, [(32, _), (33, _), (34, _), (35, _), (36, _), (37, _), (12, _)], _⟩ [box _ _ [_, _, _], box _ _ [_, _, _], box _ _ [_, _, _], box _ _ [_, _, _]] [_, _, _, _, _, _, _, _, _] rfl rfl rfl rfl ?_
          generalize vals (0 + 1) = x33
          generalize vals (0 + 1 + 1 + 1 + 1) = x36
          generalize vals (0 + 1 + 1 + 1 + 1 + 1) = x37
          generalize bs (0 + 1 + 1 + 1 + 1 + 1 + 1) = b12
          refine JL_usePost (mmS (mmS mm0)) (fun φo hP => ?_)
          obtain ⟨ad37, cp37, be37, ce37, rfl, rfl⟩ := hP
          refine JL_norm _ [box _ _ [_, _, _], box _ _ [_, _, _], box _ _ [_, _, _], box _ _ [_, _, _]] [_, _, _, _, _, _, _, _, _, _, _] rfl rfl rfl ?_
          refine JL_store (vs := [_, _, _]) 3 ty26 rfl rfl rfl (AllOne.cons rfl (AllOne.cons rfl (AllOne.cons rfl AllOne.nil))) rfl (Nat.le_of_ble_eq_true rfl) ?_
          refine JL_done_up 52 [box _ _ [_, _, _], box _ _ [_, _, _], box _ _ [_, _, _], box _ _ [_, _, _]] [_, _, _, _, _, _, _, _, _, _, _] rfl rfl (by simp only [nrmF]; rfl) rfl rfl ?_
          refine JC_seq ?_
          rcases Nat.eq_zero_or_pos i with h0 | h0
          · refine JC_drawT mixed 6 [spV 38 [] _, spV 39 [0] _, spV 40 [1] _, spV 41 [2] _, spV 42 [2, 3] _, spV 43 [2] _] ⟨OblS_V (fun vals ex ψ => (by
                refine JL_normQ ⟨52, [(38, _), (39, _), (40, _), (41, _), (42, _), (43, _)], _⟩ (_ :: _ :: _ :: _ :: _ :: _ :: _ :: _ :: _ :: _ :: _ :: ψ) rfl rfl ?_
                refine JL_move rfl ?_
                exact JL_nil (JE_stepV rfl ss0))), OblS_V (fun vals ex ψ => (by
                refine JL_normQ ⟨52, [(38, _), (39, _), (40, _), (41, _), (42, _), (43, _)], _⟩ (_ :: _ :: _ :: _ :: _ :: _ :: _ :: _ :: _ :: _ :: _ :: ψ) rfl rfl ?_
                refine JL_eql rfl rfl ?_
                rw [decide_eq_true (p := ((i + 1 : Nat) : Int) = 1) (by omega)]
                exact JL_nil (JE_stepV rfl ss0))), OblS_V (fun vals ex ψ => (by
                refine JL_normQ ⟨52, [(38, _), (39, _), (40, _), (41, _), (42, _), (43, _)], _⟩ (_ :: _ :: _ :: _ :: _ :: _ :: _ :: _ :: _ :: _ :: _ :: ψ) rfl rfl ?_
                refine JL_move rfl ?_
                exact JL_nil (JE_stepV rfl ss0))), OblS_V (fun vals ex ψ => (by
                refine JL_normQ ⟨52, [(38, _), (39, _), (40, _), (41, _), (42, _), (43, _)], _⟩ (_ :: _ :: _ :: _ :: _ :: _ :: _ :: _ :: _ :: _ :: _ :: ψ) rfl rfl ?_
                refine JL_guard_no rfl rfl ?_
                exact JL_nil (JE_stepV rfl ss0))), OblS_V (fun vals ex ψ => (by
                refine JL_normQ ⟨52, [(38, _), (39, _), (40, _), (41, _), (42, _), (43, _)], _⟩ (_ :: _ :: _ :: _ :: _ :: _ :: _ :: _ :: _ :: _ :: _ :: ψ) rfl rfl ?_
                refine JL_guard_no rfl rfl ?_
                exact JL_nil (JE_stepV rfl ss0))), OblS_V (fun vals ex ψ => (by
                refine JL_normQ ⟨52, [(38, _), (39, _), (40, _), (41, _), (42, _), (43, _)], _⟩ (_ :: _ :: _ :: _ :: _ :: _ :: _ :: _ :: _ :: _ :: _ :: ψ) rfl rfl ?_
                refine JL_guard_no rfl rfl ?_
                exact JL_nil (JE_stepV rfl ss0))), trivial⟩ (by kernel_rfl) (fun vals bs => ?_)
            refine JL_normL [_, _, _, _] ⟨52, [(38, _), (39, _), (40, _), (41, _), (42, _), (43, _)], _⟩ [box _ _ [_, _, _], box _ _ [_, _, _], box _ _ [_, _, _], box _ _ [_, _, _]] [_, _, _, _, _, _, _, _, _, _, _] rfl rfl rfl rfl ?_
            refine JL_guard_no rfl rfl ?_
            refine JL_guard_no rfl rfl ?_
            refine JL_guard_no rfl rfl ?_
            refine JL_pick_t rfl rfl ?_
            refine JL_done_up 52 [box _ _ [_, _, _], box _ _ [_, _, _], box _ _ [_, _, _], box _ _ [_, _, _]] [_, _, _, _, _, _, _, _, _, _, _] rfl rfl (by simp only [nrmF]; rfl) rfl rfl ?_
            refine JC_true rfl ?_
            refine JC_drawT mixed 3 [spV 48 [] _, spV 49 [] _, spV 9 [0] _] ⟨OblS_V (fun vals ex ψ => (by
                refine JL_normQ ⟨52, [(48, _), (49, _), (9, _)], _⟩ (_ :: _ :: _ :: _ :: _ :: _ :: _ :: _ :: _ :: _ :: _ :: ψ) rfl rfl ?_
                refine JL_move rfl ?_
                exact JL_nil (JE_stepV rfl ss0))), OblS_V (fun vals ex ψ => (by
                refine JL_normQ ⟨52, [(48, _), (49, _), (9, _)], _⟩ (_ :: _ :: _ :: _ :: _ :: _ :: _ :: _ :: _ :: _ :: _ :: ψ) rfl rfl ?_
                refine JL_loadA (vs := [_, _, _]) 3 ty26 rfl rfl ⟨rfl, rfl, rfl, trivial⟩ ?_
                exact JL_nil (JE_stepV rfl ss0))), OblS_V (fun vals ex ψ => (by
                refine JL_normQ ⟨52, [(48, _), (49, _), (9, _)], _⟩ (_ :: _ :: _ :: _ :: _ :: _ :: _ :: _ :: _ :: _ :: _ :: ψ) rfl rfl ?_
                refine JL_assign rfl ?_
                exact JL_nil (JE_stepV rfl ss0))), trivial⟩ (by kernel_rfl) (fun vals bs => ?_)
            refine JL_normL [_] ⟨52, [(48, _), (49, _), (9, _)], _⟩ [box _ _ [_, _, _], box _ _ [_, _, _], box _ _ [_, _, _], box _ _ [_, _, _]] [_, _, _, _, _, _, _, _, _, _, _] rfl rfl rfl rfl ?_
            refine JL_store (vs := [_, _, _]) 2 ty26 rfl rfl rfl (AllOne.cons rfl (AllOne.cons rfl (AllOne.cons rfl AllOne.nil))) rfl (Nat.le_of_ble_eq_true rfl) ?_
            refine JL_nil_up 52 [box _ _ [_, _, _], box _ _ [_, _, _], box _ _ [_, _, _], box _ _ [_, _, _]] [_, _, _, _, _, _, _, _, _, _, _] rfl rfl (by simp only [nrmF]; rfl) rfl rfl ?_
            refine JE_block_normal ?_
            refine JE_then ?_
            refine JC_region ?_
            refine JL_move rfl ?_
            refine JL_add_to rfl rfl (IntWalk.i64_in _ (by omega)) ?_
            rw [show (((i + 1 : Nat) : Int) + 1 : Int) = ((i + 1 + 1 : Nat) : Int) from by omega]
            refine JL_assign rfl ?_
            refine JL_nil_up 52 [box _ _ [_, _, _], box _ _ [_, _, _], box _ _ [_, _, _], box _ _ [_, _, _]] [_, _, _, _, _, _, _, _, _, _, _] rfl rfl (by simp only [nrmF]; rfl) rfl rfl ?_
            refine JE_dropAt 3 ?_
            refine JE_norm _ [box _ _ [_, _, _], box _ _ [_, _, _], box _ _ [_, _, _]] [_, _, _, _, _, _, _, _, _, _, _] rfl rfl rfl ?_
            refine JE_nextS (i + 1, ((i + 1 : Nat) : Int), some (ofq w 1 - ofq ((i + 1 : Nat) : Int) 1 * q1), ad37, cp37, be37, ce37) (by kernel_rfl) ?_ ?_ (by kernel_rfl) ?_
            · subst h0; exact ⟨by omega, rmR_one w q1⟩
            · first | omega | (dsimp only; omega)
            · exact subset_app (subset_cons (by repeat (first | with_reducible exact mm0 | refine mmS ?_)) (subset_cons (by repeat (first | with_reducible exact mm0 | refine mmS ?_)) subset_nil)) (ssS (ssS (ssS (ssS (ssS (ssS (ssS ss0)))))))
          · obtain ⟨q, ho, hq⟩ := rmR_some h0 hR
            subst ho
            have hqq : qs q 12 := by rw [hq]; exact qs_mulR h14 hu (by omega)
            refine JC_drawT mixed 6 [spV 38 [] _, spV 39 [0] _, spV 40 [1] _, spV 41 [2] _, spC 42 [2, 3] _, spV 43 [2] _] ⟨OblS_V (fun vals ex ψ => (by
                refine JL_normQ ⟨52, [(38, _), (39, _), (40, _), (41, _), (42, _), (43, _)], _⟩ (_ :: _ :: _ :: _ :: _ :: _ :: _ :: _ :: _ :: _ :: _ :: ψ) rfl rfl ?_
                refine JL_move rfl ?_
                exact JL_nil (JE_stepV rfl ss0))), OblS_V (fun vals ex ψ => (by
                refine JL_normQ ⟨52, [(38, _), (39, _), (40, _), (41, _), (42, _), (43, _)], _⟩ (_ :: _ :: _ :: _ :: _ :: _ :: _ :: _ :: _ :: _ :: _ :: ψ) rfl rfl ?_
                refine JL_eql rfl rfl ?_
                rw [decide_eq_false (p := ((i + 1 : Nat) : Int) = 1) (by omega)]
                exact JL_nil (JE_stepV rfl ss0))), OblS_V (fun vals ex ψ => (by
                refine JL_normQ ⟨52, [(38, _), (39, _), (40, _), (41, _), (42, _), (43, _)], _⟩ (_ :: _ :: _ :: _ :: _ :: _ :: _ :: _ :: _ :: _ :: _ :: ψ) rfl rfl ?_
                refine JL_move rfl ?_
                exact JL_nil (JE_stepV rfl ss0))), OblS_V (fun vals ex ψ => (by
                refine JL_normQ ⟨52, [(38, _), (39, _), (40, _), (41, _), (42, _), (43, _)], _⟩ (_ :: _ :: _ :: _ :: _ :: _ :: _ :: _ :: _ :: _ :: _ :: ψ) rfl rfl ?_
                refine JL_guard_yes rfl rfl ?_
                refine JL_loadA (vs := [_, _, _]) 3 ty26 rfl rfl ⟨rfl, rfl, rfl, trivial⟩ ?_
                exact JL_nil (JE_stepV rfl ss0))), OblS_C (fun vals ex ψ => (by
                refine JL_normQ ⟨52, [(38, _), (39, _), (40, _), (41, _), (42, _), (43, _)], _⟩ (_ :: _ :: _ :: _ :: _ :: _ :: _ :: _ :: _ :: _ :: _ :: ψ) rfl rfl ?_
                refine JL_guard_yes rfl rfl ?_
                refine JL_callF' (Asks.cons (holds_of_mem (by repeat (first | with_reducible exact mm0 | refine mmS ?_))) (Asks.cons (holds_of_mem (by repeat (first | with_reducible exact mm0 | refine mmS ?_))) Asks.nil)) (rsize_con (FIn.some (hqX.mono (by decide)))) rfl ca41 ⟨rfl, rfl⟩ ?_
                exact fun v φo hP => JL_nil (JE_stepC φo rfl hP (fun p hp => mapB_l hp) (fun p hp => mapB_r (ss0 p hp))))), OblS_V (fun vals ex ψ => (by
                refine JL_normQ ⟨52, [(38, _), (39, _), (40, _), (41, _), (42, _), (43, _)], _⟩ (_ :: _ :: _ :: _ :: _ :: _ :: _ :: _ :: _ :: _ :: _ :: ψ) rfl rfl ?_
                refine JL_guard_yes rfl rfl ?_
                refine JL_loadA (vs := [_, _, _]) 2 ty26 rfl rfl ⟨rfl, rfl, rfl, trivial⟩ ?_
                exact JL_nil (JE_stepV rfl ss0))), trivial⟩ (by kernel_rfl) (fun vals bs => ?_)
            refine JL_normL [_, _, _, _] ⟨52, [(38, _), (39, _), (40, _), (41, _), (42, _), (43, _)], _⟩ [box _ _ [_, _, _], box _ _ [_, _, _], box _ _ [_, _, _], box _ _ [_, _, _]] [_, _, _, _, _, _, _, _, _, _, _, _] rfl rfl rfl rfl ?_
            generalize vals (0 + 1 + 1 + 1 + 1) = x42
            refine JL_usePost mm0 (fun φo hP => ?_)
            obtain ⟨ad42, cp42, be42, ce42, rfl, rfl⟩ := hP
            refine JL_norm _ [box _ _ [_, _, _], box _ _ [_, _, _], box _ _ [_, _, _], box _ _ [_, _, _]] [_, _, _, _, _, _, _, _, _, _, _, _, _, _] rfl rfl rfl ?_
            refine JL_guard_yes rfl rfl ?_
            refine JL_callF' (Asks.cons (holds_of_mem (by repeat (first | with_reducible exact mm0 | refine mmS ?_))) (Asks.cons (holds_of_mem (by repeat (first | with_reducible exact mm0 | refine mmS ?_))) Asks.nil)) (rsize_con (FIn.some (hqq.mono (by decide)))) rfl ca41 ⟨rfl, rfl⟩ ?_
            rintro _ _ ⟨ad44, cp44, be44, ce44, rfl, rfl⟩
            refine JL_guard_yes rfl rfl ?_
            refine JL_callF' (Asks.cons (holds_of_mem (by repeat (first | with_reducible exact mm0 | refine mmS ?_))) (Asks.cons (holds_of_mem (by repeat (first | with_reducible exact mm0 | refine mmS ?_))) (Asks.cons (holds_of_mem (by repeat (first | with_reducible exact mm0 | refine mmS ?_))) (Asks.cons (holds_of_mem (by repeat (first | with_reducible exact mm0 | refine mmS ?_))) Asks.nil)))) (rcmpq_con (FIn.some ((qs_absq hqX).mono (by decide))) (FIn.some ((qs_absq hqq).mono (by decide)))) rfl ca40 ⟨rfl, rfl, rfl⟩ ?_
            rintro _ _ ⟨rfl, rfl⟩
            refine JL_guard_yes rfl rfl ?_
            refine JL_lss rfl rfl ?_
            refine JL_pick_f rfl rfl ?_
            refine JL_done_up 52 [box _ _ [_, _, _], box _ _ [_, _, _], box _ _ [_, _, _], box _ _ [_, _, _]] [_, _, _, _, _, _, _, _, _, _, _, _, _, _, _, _] rfl rfl (by simp only [nrmF]; rfl) rfl rfl ?_
            refine JC_cond rfl (fun hb => ?_) (fun hb => ?_)
            · have h47 := of_decide_eq_true hb
              refine JC_drawT mixed 3 [spV 48 [] _, spV 49 [] _, spV 9 [0] _] ⟨OblS_V (fun vals ex ψ => (by
                  refine JL_normQ ⟨52, [(48, _), (49, _), (9, _)], _⟩ (_ :: _ :: _ :: _ :: _ :: _ :: _ :: _ :: _ :: _ :: _ :: _ :: _ :: _ :: _ :: _ :: ψ) rfl rfl ?_
                  refine JL_move rfl ?_
                  exact JL_nil (JE_stepV rfl ss0))), OblS_V (fun vals ex ψ => (by
                  refine JL_normQ ⟨52, [(48, _), (49, _), (9, _)], _⟩ (_ :: _ :: _ :: _ :: _ :: _ :: _ :: _ :: _ :: _ :: _ :: _ :: _ :: _ :: _ :: _ :: ψ) rfl rfl ?_
                  refine JL_loadA (vs := [_, _, _]) 3 ty26 rfl rfl ⟨rfl, rfl, rfl, trivial⟩ ?_
                  exact JL_nil (JE_stepV rfl ss0))), OblS_V (fun vals ex ψ => (by
                  refine JL_normQ ⟨52, [(48, _), (49, _), (9, _)], _⟩ (_ :: _ :: _ :: _ :: _ :: _ :: _ :: _ :: _ :: _ :: _ :: _ :: _ :: _ :: _ :: _ :: ψ) rfl rfl ?_
                  refine JL_assign rfl ?_
                  exact JL_nil (JE_stepV rfl ss0))), trivial⟩ (by kernel_rfl) (fun vals bs => ?_)
              refine JL_normL [_] ⟨52, [(48, _), (49, _), (9, _)], _⟩ [box _ _ [_, _, _], box _ _ [_, _, _], box _ _ [_, _, _], box _ _ [_, _, _]] [_, _, _, _, _, _, _, _, _, _, _, _, _, _, _, _] rfl rfl rfl rfl ?_
              refine JL_store (vs := [_, _, _]) 2 ty26 rfl rfl rfl (AllOne.cons rfl (AllOne.cons rfl (AllOne.cons rfl AllOne.nil))) rfl (Nat.le_of_ble_eq_true rfl) ?_
              refine JL_nil_up 52 [box _ _ [_, _, _], box _ _ [_, _, _], box _ _ [_, _, _], box _ _ [_, _, _]] [_, _, _, _, _, _, _, _, _, _, _, _, _, _, _, _] rfl rfl (by simp only [nrmF]; rfl) rfl rfl ?_
              refine JE_block_normal ?_
              refine JE_then ?_
              refine JC_region ?_
              refine JL_move rfl ?_
              refine JL_add_to rfl rfl (IntWalk.i64_in _ (by omega)) ?_
              rw [show (((i + 1 : Nat) : Int) + 1 : Int) = ((i + 1 + 1 : Nat) : Int) from by omega]
              refine JL_assign rfl ?_
              refine JL_nil_up 52 [box _ _ [_, _, _], box _ _ [_, _, _], box _ _ [_, _, _], box _ _ [_, _, _]] [_, _, _, _, _, _, _, _, _, _, _, _, _, _, _, _] rfl rfl (by simp only [nrmF]; rfl) rfl rfl ?_
              refine JE_dropAt 3 ?_
              refine JE_norm _ [box _ _ [_, _, _], box _ _ [_, _, _], box _ _ [_, _, _]] [_, _, _, _, _, _, _, _, _, _, _, _, _, _, _, _] rfl rfl rfl ?_
              refine JE_nextS (i + 1, ((i + 1 : Nat) : Int), some (ofq w 1 - ofq ((i + 1 : Nat) : Int) 1 * q1), ad37, cp37, be37, ce37) (by kernel_rfl) ?_ ?_ (by kernel_rfl) ?_
              · exact ⟨by omega, rmR_pick h0 hR (cmpQ_neg.1 h47)⟩
              · first | omega | (dsimp only; omega)
              · exact subset_app (subset_cons (by repeat (first | with_reducible exact mm0 | refine mmS ?_)) (subset_cons (by repeat (first | with_reducible exact mm0 | refine mmS ?_)) subset_nil)) (ssS (ssS (ssS (ssS (ssS (ssS (ssS (ssS (ssS (ssS (ssS (ssS ss0))))))))))))
            · have h47 := of_decide_eq_false hb
              refine JC_skip ?_
              refine JE_block_normal ?_
              refine JE_then ?_
              refine JC_region ?_
              refine JL_move rfl ?_
              refine JL_add_to rfl rfl (IntWalk.i64_in _ (by omega)) ?_
              rw [show (((i + 1 : Nat) : Int) + 1 : Int) = ((i + 1 + 1 : Nat) : Int) from by omega]
              refine JL_assign rfl ?_
              refine JL_nil_up 52 [box _ _ [_, _, _], box _ _ [_, _, _], box _ _ [_, _, _], box _ _ [_, _, _]] [_, _, _, _, _, _, _, _, _, _, _, _, _, _, _, _] rfl rfl (by simp only [nrmF]; rfl) rfl rfl ?_
              refine JE_dropAt 3 ?_
              refine JE_norm _ [box _ _ [_, _, _], box _ _ [_, _, _], box _ _ [_, _, _]] [_, _, _, _, _, _, _, _, _, _, _, _, _, _, _, _] rfl rfl rfl ?_
              refine JE_nextS (i + 1, k0, some q, ad, c, be, e) (by kernel_rfl) ?_ ?_ (by kernel_rfl) ?_
              · exact ⟨by omega, rmR_hold h0 hR (fun e => h47 (cmpQ_neg.2 e))⟩
              · first | omega | (dsimp only; omega)
              · exact subset_app (subset_cons (by repeat (first | with_reducible exact mm0 | refine mmS ?_)) (subset_cons (by repeat (first | with_reducible exact mm0 | refine mmS ?_)) subset_nil)) (ssS (ssS (ssS (ssS (ssS (ssS (ssS (ssS (ssS (ssS (ssS (ssS ss0))))))))))))
        · refine JL_done_up 52 [box _ _ [_, _, _], box _ _ [_, _, _], box _ _ [_, _, _]] [_, _, _, _, _, _] rfl rfl (by simp only [nrmF]; rfl) rfl rfl ?_
          refine JC_false rfl ?_
          refine JC_exit ?_
          refine JE_then_exit ?_
          refine JE_nextS_exit ?_
          refine JE_block_exit ?_
          refine JE_then ?_
          refine JC_seq ?_
          refine JC_drawT mixed 3 [spV 50 [] _, spV 51 [] _, spV 6 [0] _] ⟨OblS_V (fun vals ex ψ => (by
              refine JL_normQ ⟨52, [(50, _), (51, _), (6, _)], _⟩ (_ :: _ :: _ :: _ :: _ :: _ :: ψ) rfl rfl ?_
              refine JL_move rfl ?_
              exact JL_nil (JE_stepV rfl ss0))), OblS_V (fun vals ex ψ => (by
              refine JL_normQ ⟨52, [(50, _), (51, _), (6, _)], _⟩ (_ :: _ :: _ :: _ :: _ :: _ :: ψ) rfl rfl ?_
              refine JL_loadA (vs := [_, _, _]) 2 ty26 rfl rfl ⟨rfl, rfl, rfl, trivial⟩ ?_
              exact JL_nil (JE_stepV rfl ss0))), OblS_V (fun vals ex ψ => (by
              refine JL_normQ ⟨52, [(50, _), (51, _), (6, _)], _⟩ (_ :: _ :: _ :: _ :: _ :: _ :: ψ) rfl rfl ?_
              refine JL_assign rfl ?_
              exact JL_nil (JE_stepV rfl ss0))), trivial⟩ (by kernel_rfl) (fun vals bs => ?_)
          refine JL_normL [_, _] ⟨52, [(50, _), (51, _), (6, _)], _⟩ [box _ _ [_, _, _], box _ _ [_, _, _], box _ _ [_, _, _]] [_, _, _, _, _, _] rfl rfl rfl rfl ?_
          refine JL_store (vs := [_, _, _]) 1 ty26 rfl rfl rfl (AllOne.cons rfl (AllOne.cons rfl (AllOne.cons rfl AllOne.nil))) rfl (Nat.le_of_ble_eq_true rfl) ?_
          refine JL_assign rfl ?_
          refine JL_done_up 52 [box _ _ [_, _, _], box _ _ [_, _, _], box _ _ [_, _, _]] [_, _, _, _, _, _] rfl rfl (by simp only [nrmF]; rfl) rfl rfl ?_
          refine JC_ret ?_
          have he : mulE w q1 m = 0 := by rw [mulE_lim h14 (sgn_pos.1 (by omega))]; exact limE_ok h23
          obtain ⟨hK, hO⟩ := rmR_done hm.1 (by omega) hR he
          refine JE_ret (vs := [_, _, _]) [vCells ad (u32s (fnum (o))), vCells be (u32s (fden (o)))] Tryz.results10 ⟨rfl, RV.cell (vs := [_, _, _]) 1 ty26 rfl rfl ⟨rfl, rfl, rfl, trivial⟩, rfl, rfl⟩ ?_ ?_
          · rw [hK, hO, he]; exact ⟨ad, c, be, e, rfl, rfl⟩
          · exact (all_cons (by repeat (first | with_reducible exact mm0 | refine mmS ?_)) (all_cons (by repeat (first | with_reducible exact mm0 | refine mmS ?_)) all_nil))
      · refine JL_not rfl ?_
        rw [Bool.not_false]
        refine JL_done_up 52 [box _ _ [_, _, _], box _ _ [_, _, _]] [_, _] rfl rfl (by simp only [nrmF]; rfl) rfl rfl ?_
        refine JC_true rfl ?_
        refine JC_seq ?_
        refine JC_region ?_
        refine JL_build (cs := [_, _, _]) [] st26 rfl rfl ?_
        refine JL_assign rfl ?_
        refine JL_store (vs := [_, _, _]) 1 ty26 rfl rfl rfl (AllOne.cons rfl (AllOne.cons rfl (AllOne.cons rfl AllOne.nil))) rfl (Nat.le_of_ble_eq_true rfl) ?_
        refine JL_assign rfl ?_
        refine JL_done_up 52 [box _ _ [_, _, _], box _ _ [_, _, _]] [_, _] rfl rfl (by simp only [nrmF]; rfl) rfl rfl ?_
        refine JC_ret ?_
        refine JE_then_ret ?_
        have he : mulE w q1 m = 2 := by rw [mulE_lim h14 (sgn_pos.1 (by omega)), limE_no h23]
        refine JE_nilView ?_
        refine JE_ret (vs := [_, _, _]) [vCells none (u32s []), vCells none (u32s [])] Tryz.results10 ⟨rfl, RV.cell (vs := [_, _, _]) 1 ty26 rfl rfl ⟨rfl, rfl, rfl, trivial⟩, rfl, rfl⟩ ?_ ?_
        · rw [mulK_no (by rw [he]; decide), mulO_no (by rw [he]; decide), he]; exact ⟨none, 0, none, 0, rfl, rfl⟩
        · exact (all_cons (by repeat (first | with_reducible exact mm0 | refine mmS ?_)) (all_cons (by repeat (first | with_reducible exact mm0 | refine mmS ?_)) all_nil))
  · refine JL_not rfl ?_
    rw [Bool.not_false]
    refine JL_move rfl ?_
    refine JL_guard_no rfl rfl ?_
    refine JL_guard_no rfl rfl ?_
    refine JL_guard_no rfl rfl ?_
    refine JL_pick_t rfl rfl ?_
    refine JL_done_up 52 [box _ _ [_, _, _], box _ _ [_, _, _]] [_, _] rfl rfl (by simp only [nrmF]; rfl) rfl rfl ?_
    refine JC_true rfl ?_
    refine JC_seq ?_
    refine JC_region ?_
    refine JL_build (cs := [_, _, _]) [] st26 rfl rfl ?_
    refine JL_assign rfl ?_
    refine JL_store (vs := [_, _, _]) 1 ty26 rfl rfl rfl (AllOne.cons rfl (AllOne.cons rfl (AllOne.cons rfl AllOne.nil))) rfl (Nat.le_of_ble_eq_true rfl) ?_
    refine JL_assign rfl ?_
    refine JL_done_up 52 [box _ _ [_, _, _], box _ _ [_, _, _]] [_, _] rfl rfl (by simp only [nrmF]; rfl) rfl rfl ?_
    refine JC_ret ?_
    refine JE_then_ret ?_
    have he : mulE w q1 m = 1 := mulE_bad (by first | exact .inl h14 | exact .inr h19)
    refine JE_nilView ?_
    refine JE_ret (vs := [_, _, _]) [vCells none (u32s []), vCells none (u32s [])] Tryz.results10 ⟨rfl, RV.cell (vs := [_, _, _]) 1 ty26 rfl rfl ⟨rfl, rfl, rfl, trivial⟩, rfl, rfl⟩ ?_ ?_
    · rw [mulK_no (by rw [he]; decide), mulO_no (by rw [he]; decide), he]; exact ⟨none, 0, none, 0, rfl, rfl⟩
    · exact (all_cons (by repeat (first | with_reducible exact mm0 | refine mmS ?_)) (all_cons (by repeat (first | with_reducible exact mm0 | refine mmS ?_)) all_nil))

end Go.Fw.K
