/- Walks through functions of the given program: each meets its contract. (Printed by a program of this repo.) -/
import Derived.Test.YtgnljjdcbfijnaaDoorS1
import Derived.Test.YtgnljjdcbfijnaaDoorS5
import Derived.Test.YtgnljjdcbfijnaaDoorF
import Derived.Test.YtgnljjdcbfijnaaDoorFrT
import Derived.Test.YtgnljjdcbfijnaaDoorProg
namespace Go.Fw.S6
open Go Go.RowKit Go.Proofs Go.Nat9 Go.Fw
attribute [local irreducible] JC JL JE
theorem ca18 : callable Tryd.prog 18 = true := by kernel_rfl
theorem ca21 : callable Tryd.prog 21 = true := by kernel_rfl
theorem ca22 : callable Tryd.prog 22 = true := by kernel_rfl
theorem ca23 : callable Tryd.prog 23 = true := by kernel_rfl
theorem ca24 : callable Tryd.prog 24 = true := by kernel_rfl
theorem ca30 : callable Tryd.prog 30 = true := by kernel_rfl
theorem ca31 : callable Tryd.prog 31 = true := by kernel_rfl
theorem ca37 : callable Tryd.prog 37 = true := by kernel_rfl
theorem ca41 : callable Tryd.prog 41 = true := by kernel_rfl
theorem ca42 : callable Tryd.prog 42 = true := by kernel_rfl
theorem ca47 : callable Tryd.prog 47 = true := by kernel_rfl
theorem ca51 : callable Tryd.prog 51 = true := by kernel_rfl
theorem mixed : Tryd.prog.follows .mixedOrders = true := by kernel_rfl
theorem st35 : stOf Tryd.prog 35 = some ([(0, 1), (1, 1), (2, 1)], [.bool false, .slice none 0 0, .slice none 0 0]) := by kernel_rfl
theorem ty35 : tyOf Tryd.prog 35 = some (true, 3) := by kernel_rfl
theorem z35 : zeroOf Tryd.prog 35 = some [.bool false, .slice none 0 0, .slice none 0 0] := by kernel_rfl
end Go.Fw.S6
namespace Go.Fw.K
open Go Go.RowKit Go.Proofs Go.Nat9 Go.Fw Go.Fw.S6
attribute [local irreducible] JC JL JE

theorem iwhole_con (n : Int) (hn : -9223372036854775808 ≤ n ∧ n ≤ 9223372036854775807) :
    ConF Tryd.prog 41 [.int .i64 n] []
      (FO (some (ofq n 1))) := by
  refine ConF_of Tryd.func41 rfl 5 _ rfl rfl ?_
  intro w0
  refine JC_norm ⟨5, [], [_, _, _, _, _]⟩ [] [] rfl rfl rfl ?_
  refine JC_seq ?_
  refine JC_region ?_
  refine JL_alloc z35 (fun b2 => ?_)
  refine JL_done_up 5 [box _ _ [_, _, _]] [] rfl rfl (by simp only [nrmF]; rfl) rfl rfl ?_
  refine JC_seq ?_
  refine JC_region ?_
  refine JL_move rfl ?_
  refine JL_callF' Asks.nil (fofi_con n 1 (by omega) (by omega)) rfl ca22 ⟨rfl, rfl, rfl⟩ ?_
  rintro _ _ ⟨ad4, cp4, be4, ce4, rfl, rfl⟩
  refine JL_store (vs := [_, _, _]) 0 ty35 rfl rfl rfl (AllOne.cons rfl (AllOne.cons rfl (AllOne.cons rfl AllOne.nil))) rfl (Nat.le_of_ble_eq_true rfl) ?_
  refine JL_done_up 5 [box _ _ [_, _, _]] [_, _] rfl rfl (by simp only [nrmF]; rfl) rfl rfl ?_
  refine JC_ret ?_
  refine JE_ret (vs := [_]) [vCells ad4 (u32s (fnum (some (ofq n 1)))), vCells be4 (u32s (fden (some (ofq n 1))))] Tryd.results41 ⟨RV.cell (vs := [_, _, _]) 0 ty35 rfl rfl ⟨rfl, rfl, rfl, trivial⟩, rfl⟩ ?_ ?_
  · exact ⟨ad4, cp4, be4, ce4, rfl, rfl⟩
  · exact (all_cons (by repeat (first | with_reducible exact mm0 | refine mmS ?_)) (all_cons (by repeat (first | with_reducible exact mm0 | refine mmS ?_)) all_nil))

theorem idist_con {s1 : Bool} {ad1 : Option Addr} {n1 c1 : Nat} {L1 : List Nat} {be1 : Option Addr} {m1 e1 : Nat} {M1 : List Nat} {q1 : Rat} (g1 : FIn s1 n1 L1 m1 M1 q1 100) :
    ConF Tryd.prog 42 [.agg #[.bool s1, .slice ad1 n1 c1, .slice be1 m1 e1]] [vCells ad1 (u32s L1), vCells be1 (u32s M1)]
      (FO (some (absq q1))) := by
  refine ConF_of Tryd.func42 rfl 10 _ rfl rfl ?_
  intro w0
  refine JC_norm ⟨10, [], [_, _, _, _, _, _, _, _, _, _]⟩ [] [_, _] rfl rfl rfl ?_
  refine JC_seq ?_
  refine JC_region ?_
  refine JL_box rfl rfl (fun b1 => ?_)
  refine JL_alloc z35 (fun b2 => ?_)
  refine JL_done_up 10 [box _ _ [_, _, _], box _ _ [_, _, _]] [_, _] rfl rfl (by simp only [nrmF]; rfl) rfl rfl ?_
  refine JC_seq ?_
  refine JC_seq ?_
  refine JC_region ?_
  refine JL_loadA (vs := [_, _, _]) 0 ty35 rfl rfl ⟨rfl, rfl, rfl, trivial⟩ ?_
  refine JL_callF' (Asks.cons (holds_of_mem (by repeat (first | with_reducible exact mm0 | refine mmS ?_))) (Asks.cons (holds_of_mem (by repeat (first | with_reducible exact mm0 | refine mmS ?_))) Asks.nil)) (fsign_con (g1.mono (by decide))) rfl ca18 ⟨rfl, rfl⟩ ?_
  rintro _ _ ⟨rfl, rfl⟩
  refine JL_lss rfl rfl ?_
  refine JL_split (fun h5 => ?_) (fun h5 => ?_)
  · refine JL_done_up 10 [box _ _ [_, _, _], box _ _ [_, _, _]] [_, _] rfl rfl (by simp only [nrmF]; rfl) rfl rfl ?_
    refine JC_true rfl ?_
    refine JC_seq ?_
    refine JC_region ?_
    refine JL_loadA (vs := [_, _, _]) 0 ty35 rfl rfl ⟨rfl, rfl, rfl, trivial⟩ ?_
    refine JL_callF' (Asks.cons (holds_of_mem (by repeat (first | with_reducible exact mm0 | refine mmS ?_))) (Asks.cons (holds_of_mem (by repeat (first | with_reducible exact mm0 | refine mmS ?_))) Asks.nil)) (fneg_con (g1.mono (by decide))) rfl ca47 ⟨rfl, rfl⟩ ?_
    rintro _ _ ⟨ad7, cp7, be7, ce7, rfl, rfl⟩
    refine JL_store (vs := [_, _, _]) 1 ty35 rfl rfl rfl (AllOne.cons rfl (AllOne.cons rfl (AllOne.cons rfl AllOne.nil))) rfl (Nat.le_of_ble_eq_true rfl) ?_
    refine JL_done_up 10 [box _ _ [_, _, _], box _ _ [_, _, _]] [_, _, _, _] rfl rfl (by simp only [nrmF]; rfl) rfl rfl ?_
    refine JC_ret ?_
    refine JE_then_ret ?_
    rw [absq_neg h5]
    refine JE_ret (vs := [_]) [vCells ad7 (u32s (fnum (some (-q1)))), vCells be7 (u32s (fden (some (-q1))))] Tryd.results42 ⟨RV.cell (vs := [_, _, _]) 1 ty35 rfl rfl ⟨rfl, rfl, rfl, trivial⟩, rfl⟩ ?_ ?_
    · exact ⟨ad7, cp7, be7, ce7, rfl, rfl⟩
    · exact (all_cons (by repeat (first | with_reducible exact mm0 | refine mmS ?_)) (all_cons (by repeat (first | with_reducible exact mm0 | refine mmS ?_)) all_nil))
  · refine JL_done_up 10 [box _ _ [_, _, _], box _ _ [_, _, _]] [_, _] rfl rfl (by simp only [nrmF]; rfl) rfl rfl ?_
    refine JC_false rfl ?_
    refine JC_skip ?_
    refine JE_then ?_
    refine JC_seq ?_
    refine JC_region ?_
    refine JL_loadA (vs := [_, _, _]) 0 ty35 rfl rfl ⟨rfl, rfl, rfl, trivial⟩ ?_
    refine JL_callF' (Asks.cons (holds_of_mem (by repeat (first | with_reducible exact mm0 | refine mmS ?_))) (Asks.cons (holds_of_mem (by repeat (first | with_reducible exact mm0 | refine mmS ?_))) Asks.nil)) (fnorm_con (g1.mono (by decide))) rfl ca51 ⟨rfl, rfl⟩ ?_
    rintro _ _ ⟨ad9, cp9, be9, ce9, rfl, rfl⟩
    refine JL_store (vs := [_, _, _]) 1 ty35 rfl rfl rfl (AllOne.cons rfl (AllOne.cons rfl (AllOne.cons rfl AllOne.nil))) rfl (Nat.le_of_ble_eq_true rfl) ?_
    refine JL_done_up 10 [box _ _ [_, _, _], box _ _ [_, _, _]] [_, _, _, _] rfl rfl (by simp only [nrmF]; rfl) rfl rfl ?_
    refine JC_ret ?_
    rw [absq_pos h5]
    refine JE_ret (vs := [_]) [vCells ad9 (u32s (fnum (some (q1)))), vCells be9 (u32s (fden (some (q1))))] Tryd.results42 ⟨RV.cell (vs := [_, _, _]) 1 ty35 rfl rfl ⟨rfl, rfl, rfl, trivial⟩, rfl⟩ ?_ ?_
    · exact ⟨ad9, cp9, be9, ce9, rfl, rfl⟩
    · exact (all_cons (by repeat (first | with_reducible exact mm0 | refine mmS ?_)) (all_cons (by repeat (first | with_reducible exact mm0 | refine mmS ?_)) all_nil))

set_option maxHeartbeats 1000000 in
theorem imul_con {w m : Int} {s1 : Bool} {ad1 : Option Addr} {n1 c1 : Nat} {L1 : List Nat} {be1 : Option Addr} {m1 e1 : Nat} {M1 : List Nat} {q1 : Rat} (g1 : FIn s1 n1 L1 m1 M1 q1 4) :
    ConF Tryd.prog 20 [.int .i64 w, .agg #[.bool s1, .slice ad1 n1 c1, .slice be1 m1 e1], .int .i64 m] [vCells ad1 (u32s L1), vCells be1 (u32s M1)]
      (MUL (mulK w q1 m) (mulO w q1 m) (mulE w q1 m)) := by
  have hu := g1.qs
  refine ConF_of Tryd.func20 rfl 55 _ rfl rfl ?_
  intro w0
  refine JC_norm ⟨55, [], [_, _, _, _, _, _, _, _, _, _, _, _, _, _, _, _, _, _, _, _, _, _, _, _, _, _, _, _, _, _, _, _, _, _, _, _, _, _, _, _, _, _, _, _, _, _, _, _, _, _, _, _, _, _, _]⟩ [] [_, _] rfl rfl rfl ?_
  refine JC_seq ?_
  refine JC_region ?_
  refine JL_box rfl rfl (fun b4 => ?_)
  refine JL_assign rfl ?_
  refine JL_alloc z35 (fun b7 => ?_)
  refine JL_assign rfl ?_
  refine JL_done_up 55 [box _ _ [_, _, _], box _ _ [_, _, _]] [_, _] rfl rfl (by simp only [nrmF]; rfl) rfl rfl ?_
  refine JC_seq ?_
  refine JC_seq ?_
  refine JC_region ?_
  refine JL_move rfl ?_
  refine JL_callF' Asks.nil (iwt_con) rfl ca30 ⟨rfl, rfl⟩ ?_
  rintro _ _ ⟨rfl, rfl⟩
  refine JL_split (fun h15 => ?_) (fun h15 => ?_)
  · refine JL_not rfl ?_
    rw [Bool.not_true]
    refine JL_move rfl ?_
    refine JL_guard_yes rfl rfl ?_
    refine JL_loadA (vs := [_, _, _]) 0 ty35 rfl rfl ⟨rfl, rfl, rfl, trivial⟩ ?_
    refine JL_guard_yes rfl rfl ?_
    refine JL_callF' (Asks.cons (holds_of_mem (by repeat (first | with_reducible exact mm0 | refine mmS ?_))) (Asks.cons (holds_of_mem (by repeat (first | with_reducible exact mm0 | refine mmS ?_))) Asks.nil)) (iunit_con (g1.mono (by decide))) rfl ca37 ⟨rfl, rfl⟩ ?_
    rintro _ _ ⟨rfl, rfl⟩
    refine JL_split (fun h19 => ?_) (fun h19 => ?_)
    · refine JL_guard_yes rfl rfl ?_
      refine JL_not rfl ?_
      rw [Bool.not_true]
      refine JL_pick_f rfl rfl ?_
      refine JL_done_up 55 [box _ _ [_, _, _], box _ _ [_, _, _]] [_, _] rfl rfl (by simp only [nrmF]; rfl) rfl rfl ?_
      refine JC_false rfl ?_
      refine JC_skip ?_
      refine JE_then ?_
      refine JC_seq ?_
      refine JC_seq ?_
      refine JC_region ?_
      refine JL_move rfl ?_
      refine JL_callF' Asks.nil (ilim_con (tol := 0)) rfl ca31 ⟨rfl, rfl, rfl⟩ ?_
      rintro _ _ ⟨rfl, rfl⟩
      refine JL_assign rfl ?_
      refine JL_done_up 55 [box _ _ [_, _, _], box _ _ [_, _, _]] [_, _] rfl rfl (by simp only [nrmF]; rfl) rfl rfl ?_
      refine JC_seq ?_
      refine JC_region ?_
      refine JL_move rfl ?_
      refine JL_neq rfl rfl ?_
      refine JL_split (fun h26 => ?_) (fun h26 => ?_)
      · refine JL_done_up 55 [box _ _ [_, _, _], box _ _ [_, _, _]] [_, _] rfl rfl (by simp only [nrmF]; rfl) rfl rfl ?_
        refine JC_true rfl ?_
        refine JC_seq ?_
        refine JC_region ?_
        refine JL_build (cs := [_, _, _]) [] st35 rfl rfl ?_
        refine JL_move rfl ?_
        refine JL_assign rfl ?_
        refine JL_store (vs := [_, _, _]) 1 ty35 rfl rfl rfl (AllOne.cons rfl (AllOne.cons rfl (AllOne.cons rfl AllOne.nil))) rfl (Nat.le_of_ble_eq_true rfl) ?_
        refine JL_assign rfl ?_
        refine JL_done_up 55 [box _ _ [_, _, _], box _ _ [_, _, _]] [_, _] rfl rfl (by simp only [nrmF]; rfl) rfl rfl ?_
        refine JC_ret ?_
        refine JE_then_ret ?_
        have he : mulE w q1 m = limE 0 m := mulE_lim h15 h19
        refine JE_nilView ?_
        refine JE_ret (vs := [_, _, _]) [vCells none (u32s []), vCells none (u32s [])] Tryd.results20 ⟨rfl, RV.cell (vs := [_, _, _]) 1 ty35 rfl rfl ⟨rfl, rfl, rfl, trivial⟩, rfl, rfl⟩ ?_ ?_
        · rw [mulK_no (by rw [he]; exact h26), mulO_no (by rw [he]; exact h26), he]; exact ⟨none, 0, none, 0, rfl, rfl⟩
        · exact (all_cons (by repeat (first | with_reducible exact mm0 | refine mmS ?_)) (all_cons (by repeat (first | with_reducible exact mm0 | refine mmS ?_)) all_nil))
      · refine JL_done_up 55 [box _ _ [_, _, _], box _ _ [_, _, _]] [_, _] rfl rfl (by simp only [nrmF]; rfl) rfl rfl ?_
        refine JC_false rfl ?_
        refine JC_skip ?_
        refine JE_then ?_
        refine JC_seq ?_
        have hlim : limOk 0 m := limE_zero.1 (Classical.byContradiction h26)
        obtain ⟨_, hm1, hm2⟩ := hlim
        have hw := h15
        obtain ⟨hw1, hw2⟩ := hw
        have hqw : qs (ofq w 1) 3 := qs_ofi (by omega)
        refine JC_drawT mixed 5 [spV 29 [] _, spC 30 [0] _, spV 31 [] _, spC 32 [1, 2] _, spA 11 35 [.bool false, .slice none 0 0, .slice none 0 0]] ⟨OblS_V (fun vals ex ψ => (by
            refine JL_normQ ⟨55, [(29, _), (30, _), (31, _), (32, _), (11, _)], _⟩ (_ :: _ :: ψ) rfl rfl ?_
            refine JL_move rfl ?_
            exact JL_nil (JE_stepV rfl ss0))), OblS_C (fun vals ex ψ => (by
            refine JL_normQ ⟨55, [(29, _), (30, _), (31, _), (32, _), (11, _)], _⟩ (_ :: _ :: ψ) rfl rfl ?_
            refine JL_callF' Asks.nil (iwhole_con w (by omega)) rfl ca41 ⟨rfl, rfl⟩ ?_
            exact fun v φo hP => JL_nil (JE_stepC φo rfl hP (fun p hp => mapB_l hp) (fun p hp => mapB_r (ss0 p hp))))), OblS_V (fun vals ex ψ => (by
            refine JL_normQ ⟨55, [(29, _), (30, _), (31, _), (32, _), (11, _)], _⟩ (_ :: _ :: ψ) rfl rfl ?_
            refine JL_loadA (vs := [_, _, _]) 0 ty35 rfl rfl ⟨rfl, rfl, rfl, trivial⟩ ?_
            exact JL_nil (JE_stepV rfl ss0))), OblS_C (fun vals ex ψ => (by
            refine JL_normQ ⟨55, [(29, _), (30, _), (31, _), (32, _), (11, _)], _⟩ (_ :: _ :: _ :: ψ) rfl rfl ?_
            generalize vals 1 = x30
            refine JL_usePost mm0 (fun φo hP => ?_)
            obtain ⟨ad30, cp30, be30, ce30, rfl, rfl⟩ := hP
            refine JL_norm _ _ (_ :: _ :: _ :: _ :: _ :: ψ) rfl rfl rfl ?_
            refine JL_callF' (Asks.cons (holds_of_mem (by repeat (first | with_reducible exact mm0 | refine mmS ?_))) (Asks.cons (holds_of_mem (by repeat (first | with_reducible exact mm0 | refine mmS ?_))) (Asks.cons (holds_of_mem (by repeat (first | with_reducible exact mm0 | refine mmS ?_))) (Asks.cons (holds_of_mem (by repeat (first | with_reducible exact mm0 | refine mmS ?_))) Asks.nil)))) (fsubq_con (FIn.some (hqw.mono (by decide))) (g1.mono (by decide))) rfl ca24 ⟨rfl, rfl, rfl⟩ ?_
            exact fun v φo hP => JL_nil (JE_stepC φo rfl hP (fun p hp => mapB_l hp) (fun p hp => mapB_r ((ssS (ssS ss0)) p hp))))), OblS_al rfl z35, trivial⟩ (by kernel_rfl) (fun vals bs => ?_)
        refine JL_normL [_, _] ⟨55, [(29, _), (30, _), (31, _), (32, _), (11, _)], _⟩ [box _ _ [_, _, _], box _ _ [_, _, _], box _ _ [_, _, _]] [_, _, _, _] rfl rfl rfl rfl ?_
        generalize vals (0 + 1) = x30
        generalize vals (0 + 1 + 1 + 1) = x32
        generalize bs (0 + 1 + 1 + 1 + 1) = b11
        refine JL_usePost (mmS mm0) (fun φo hP => ?_)
        obtain ⟨ad32, cp32, be32, ce32, rfl, rfl⟩ := hP
        refine JL_norm _ [box _ _ [_, _, _], box _ _ [_, _, _], box _ _ [_, _, _]] [_, _, _, _, _, _] rfl rfl rfl ?_
        refine JL_assign rfl ?_
        refine JL_store (vs := [_, _, _]) 2 ty35 rfl rfl rfl (AllOne.cons rfl (AllOne.cons rfl (AllOne.cons rfl AllOne.nil))) rfl (Nat.le_of_ble_eq_true rfl) ?_
        refine JL_done_up 55 [box _ _ [_, _, _], box _ _ [_, _, _], box _ _ [_, _, _]] [_, _, _, _, _, _] rfl rfl (by simp only [nrmF]; rfl) rfl rfl ?_
        refine JC_seq ?_
        refine JC_seq ?_
        refine JC_region ?_
        refine JL_assign rfl ?_
        refine JL_done_up 55 [box _ _ [_, _, _], box _ _ [_, _, _], box _ _ [_, _, _]] [_, _, _, _, _, _] rfl rfl (by simp only [nrmF]; rfl) rfl rfl ?_
        refine JC_block ?_
        refine JC_loopS ((Nat) × (Int) × (Rat) × (Option Addr) × (Nat) × (Option Addr) × (Nat)) (fun (i, k0, q, ad, c, be, e) => i + 1 ≤ m.toNat ∧ mulR w q1 i = (k0, q)) (fun (i, k0, q, ad, c, be, e) => m.toNat - i) (fun u (i, k0, q, ad, c, be, e) => [none, none, none, none, none, none, none, none, none, none, some (.int .i64 k0), none, some (.int .i64 ((i + 2 : Nat) : Int)), some (u 13), none, none, none, none, none, none, none, none, none, none, none, none, none, none, none, none, none, none, none, some (u 33), some (u 34), some (u 35), some (u 36), some (u 37), some (u 38), some (u 39), some (u 40), some (u 41), some (u 42), some (u 43), some (u 44), some (u 45), some (u 46), some (u 47), some (u 48), some (u 49), some (u 50), some (u 51), some (u 52), none, none]) (fun (i, k0, q, ad, c, be, e) => [none, none, some (box b11 35 [.bool (fneg (some q)), .slice ad (fnum (some q)).length c, .slice be (fden (some q)).length e])]) (fun (i, k0, q, ad, c, be, e) => [(true, vCells ad (u32s (fnum (some q)))), (true, vCells be (u32s (fden (some q))))]) (0, 1, ofq w 1 - q1, ad32, cp32, be32, ce32) (by kernel_rfl) ?_ (by kernel_rfl) ?_ ?_
        · exact ⟨by omega, rfl⟩
        · exact (subset_cons (by repeat (first | with_reducible exact mm0 | refine mmS ?_)) (subset_cons (by repeat (first | with_reducible exact mm0 | refine mmS ?_)) subset_nil))
        intro u i hC
        obtain ⟨i, k0, q, ad, c, be, e⟩ := i
        obtain ⟨hi, hR⟩ := hC
        refine JC_norm ⟨55, [], [_, _, _, _, _, _, _, _, _, _, _, _, _, _, _, _, _, _, _, _, _, _, _, _, _, _, _, _, _, _, _, _, _, _, _, _, _, _, _, _, _, _, _, _, _, _, _, _, _, _, _, _, _, _, _]⟩ [box _ _ [_, _, _], box _ _ [_, _, _], box _ _ [_, _, _]] [_, _, _, _, _, _, _, _] rfl rfl rfl ?_
        refine JC_seq ?_
        refine JC_seq ?_
        refine JC_region ?_
        refine JL_move rfl ?_
        refine JL_move rfl ?_
        refine JL_leq rfl rfl ?_
        refine JL_split (fun h35 => ?_) (fun h35 => ?_)
        · refine JL_done_up 55 [box _ _ [_, _, _], box _ _ [_, _, _], box _ _ [_, _, _]] [_, _, _, _, _, _, _, _] rfl rfl (by simp only [nrmF]; rfl) rfl rfl ?_
          refine JC_true rfl ?_
          refine JC_skip ?_
          refine JE_then ?_
          refine JC_seq ?_
          refine JC_block ?_
          refine JC_seq ?_
          have hqk : qs (ofq ((i + 2 : Nat) : Int) 1) 3 := qs_ofi (by omega)
          have hqp : qs (ofq ((i + 2 : Nat) : Int) 1 * q1) 8 := hqk.mul hu (Nat.le_refl 8)
          have hqx := qs_mulX h15 hu (i := i) (by omega)
          have hqR := qs_mulR h15 hu (i := i) (by omega)
          rw [hR] at hqR
          refine JC_drawT mixed 8 [spV 38 [] _, spC 39 [0] _, spV 40 [] _, spC 41 [2] _, spV 42 [] _, spC 43 [3, 4] _, spC 44 [1, 5] _, spA 13 35 [.bool false, .slice none 0 0, .slice none 0 0]] ⟨OblS_V (fun vals ex ψ => (by
              refine JL_normQ ⟨55, [(38, _), (39, _), (40, _), (41, _), (42, _), (43, _), (44, _), (13, _)], _⟩ (_ :: _ :: _ :: _ :: _ :: _ :: _ :: _ :: ψ) rfl rfl ?_
              refine JL_move rfl ?_
              exact JL_nil (JE_stepV rfl ss0))), OblS_C (fun vals ex ψ => (by
              refine JL_normQ ⟨55, [(38, _), (39, _), (40, _), (41, _), (42, _), (43, _), (44, _), (13, _)], _⟩ (_ :: _ :: _ :: _ :: _ :: _ :: _ :: _ :: ψ) rfl rfl ?_
              refine JL_callF' Asks.nil (iwhole_con w (by omega)) rfl ca41 ⟨rfl, rfl⟩ ?_
              exact fun v φo hP => JL_nil (JE_stepC φo rfl hP (fun p hp => mapB_l hp) (fun p hp => mapB_r (ss0 p hp))))), OblS_V (fun vals ex ψ => (by
              refine JL_normQ ⟨55, [(38, _), (39, _), (40, _), (41, _), (42, _), (43, _), (44, _), (13, _)], _⟩ (_ :: _ :: _ :: _ :: _ :: _ :: _ :: _ :: ψ) rfl rfl ?_
              refine JL_move rfl ?_
              exact JL_nil (JE_stepV rfl ss0))), OblS_C (fun vals ex ψ => (by
              refine JL_normQ ⟨55, [(38, _), (39, _), (40, _), (41, _), (42, _), (43, _), (44, _), (13, _)], _⟩ (_ :: _ :: _ :: _ :: _ :: _ :: _ :: _ :: ψ) rfl rfl ?_
              refine JL_callF' Asks.nil (iwhole_con ((i + 2 : Nat) : Int) (by omega)) rfl ca41 ⟨rfl, rfl⟩ ?_
              exact fun v φo hP => JL_nil (JE_stepC φo rfl hP (fun p hp => mapB_l hp) (fun p hp => mapB_r (ss0 p hp))))), OblS_V (fun vals ex ψ => (by
              refine JL_normQ ⟨55, [(38, _), (39, _), (40, _), (41, _), (42, _), (43, _), (44, _), (13, _)], _⟩ (_ :: _ :: _ :: _ :: _ :: _ :: _ :: _ :: ψ) rfl rfl ?_
              refine JL_loadA (vs := [_, _, _]) 0 ty35 rfl rfl ⟨rfl, rfl, rfl, trivial⟩ ?_
              exact JL_nil (JE_stepV rfl ss0))), OblS_C (fun vals ex ψ => (by
              refine JL_normQ ⟨55, [(38, _), (39, _), (40, _), (41, _), (42, _), (43, _), (44, _), (13, _)], _⟩ (_ :: _ :: _ :: _ :: _ :: _ :: _ :: _ :: _ :: ψ) rfl rfl ?_
              generalize vals 3 = x41
              refine JL_usePost mm0 (fun φo hP => ?_)
              obtain ⟨ad41, cp41, be41, ce41, rfl, rfl⟩ := hP
              refine JL_norm _ _ (_ :: _ :: _ :: _ :: _ :: _ :: _ :: _ :: _ :: _ :: _ :: ψ) rfl rfl rfl ?_
              refine JL_callF' (Asks.cons (holds_of_mem (by repeat (first | with_reducible exact mm0 | refine mmS ?_))) (Asks.cons (holds_of_mem (by repeat (first | with_reducible exact mm0 | refine mmS ?_))) (Asks.cons (holds_of_mem (by repeat (first | with_reducible exact mm0 | refine mmS ?_))) (Asks.cons (holds_of_mem (by repeat (first | with_reducible exact mm0 | refine mmS ?_))) Asks.nil)))) (fmulq_con (FIn.some (hqk.mono (by decide))) (g1.mono (by decide))) rfl ca21 ⟨rfl, rfl, rfl⟩ ?_
              exact fun v φo hP => JL_nil (JE_stepC φo rfl hP (fun p hp => mapB_l hp) (fun p hp => mapB_r ((ssS (ssS ss0)) p hp))))), OblS_C (fun vals ex ψ => (by
              refine JL_normQ ⟨55, [(38, _), (39, _), (40, _), (41, _), (42, _), (43, _), (44, _), (13, _)], _⟩ (_ :: _ :: _ :: _ :: _ :: _ :: _ :: _ :: _ :: _ :: ψ) rfl rfl ?_
              generalize vals 1 = x39
              refine JL_usePost mm0 (fun φo hP => ?_)
              obtain ⟨ad39, cp39, be39, ce39, rfl, rfl⟩ := hP
              refine JL_norm _ _ (_ :: _ :: _ :: _ :: _ :: _ :: _ :: _ :: _ :: _ :: _ :: _ :: ψ) rfl rfl rfl ?_
              generalize vals 5 = x43
              refine JL_usePost (mmS (mmS (mmS mm0))) (fun φo hP => ?_)
              obtain ⟨ad43, cp43, be43, ce43, rfl, rfl⟩ := hP
              refine JL_norm _ _ (_ :: _ :: _ :: _ :: _ :: _ :: _ :: _ :: _ :: _ :: _ :: _ :: _ :: _ :: ψ) rfl rfl rfl ?_
              refine JL_callF' (Asks.cons (holds_of_mem (by repeat (first | with_reducible exact mm0 | refine mmS ?_))) (Asks.cons (holds_of_mem (by repeat (first | with_reducible exact mm0 | refine mmS ?_))) (Asks.cons (holds_of_mem (by repeat (first | with_reducible exact mm0 | refine mmS ?_))) (Asks.cons (holds_of_mem (by repeat (first | with_reducible exact mm0 | refine mmS ?_))) Asks.nil)))) (fsubq_con (FIn.some (hqw.mono (by decide))) (FIn.some (hqp.mono (by decide)))) rfl ca24 ⟨rfl, rfl, rfl⟩ ?_
              exact fun v φo hP => JL_nil (JE_stepC φo rfl hP (fun p hp => mapB_l hp) (fun p hp => mapB_r ((ssS (ssS (ssS (ssS ss0)))) p hp))))), OblS_al rfl z35, trivial⟩ (by kernel_rfl) (fun vals bs => ?_)
          refine JL_normL [_] ⟨55, [(38, _), (39, _), (40, _), (41, _), (42, _), (43, _), (44, _), (13, _)], _⟩ [box _ _ [_, _, _], box _ _ [_, _, _], box _ _ [_, _, _], box _ _ [_, _, _]] [_, _, _, _, _, _, _, _, _, _, _, _] rfl rfl rfl rfl ?_
          generalize vals (0 + 1) = x39
          generalize vals (0 + 1 + 1 + 1) = x41
          generalize vals (0 + 1 + 1 + 1 + 1 + 1) = x43
          generalize vals (0 + 1 + 1 + 1 + 1 + 1 + 1) = x44
          generalize bs (0 + 1 + 1 + 1 + 1 + 1 + 1 + 1) = b13
          refine JL_usePost (mmS (mmS (mmS mm0))) (fun φo hP => ?_)
          obtain ⟨ad44, cp44, be44, ce44, rfl, rfl⟩ := hP
          refine JL_norm _ [box _ _ [_, _, _], box _ _ [_, _, _], box _ _ [_, _, _], box _ _ [_, _, _]] [_, _, _, _, _, _, _, _, _, _, _, _, _, _] rfl rfl rfl ?_
          refine JL_store (vs := [_, _, _]) 3 ty35 rfl rfl rfl (AllOne.cons rfl (AllOne.cons rfl (AllOne.cons rfl AllOne.nil))) rfl (Nat.le_of_ble_eq_true rfl) ?_
          refine JL_done_up 55 [box _ _ [_, _, _], box _ _ [_, _, _], box _ _ [_, _, _], box _ _ [_, _, _]] [_, _, _, _, _, _, _, _, _, _, _, _, _, _] rfl rfl (by simp only [nrmF]; rfl) rfl rfl ?_
          refine JC_seq ?_
          rw [show ofq w 1 - ofq ((i + 2 : Nat) : Int) 1 * q1 = mulX w q1 i from rfl]
          refine JC_drawT mixed 3 [spV 45 [] _, spC 46 [0] _, spV 47 [] _] ⟨OblS_V (fun vals ex ψ => (by
              refine JL_normQ ⟨55, [(45, _), (46, _), (47, _)], _⟩ (_ :: _ :: _ :: _ :: _ :: _ :: _ :: _ :: _ :: _ :: _ :: _ :: _ :: _ :: ψ) rfl rfl ?_
              refine JL_loadA (vs := [_, _, _]) 3 ty35 rfl rfl ⟨rfl, rfl, rfl, trivial⟩ ?_
              exact JL_nil (JE_stepV rfl ss0))), OblS_C (fun vals ex ψ => (by
              refine JL_normQ ⟨55, [(45, _), (46, _), (47, _)], _⟩ (_ :: _ :: _ :: _ :: _ :: _ :: _ :: _ :: _ :: _ :: _ :: _ :: _ :: _ :: ψ) rfl rfl ?_
              refine JL_callF' (Asks.cons (holds_of_mem (by repeat (first | with_reducible exact mm0 | refine mmS ?_))) (Asks.cons (holds_of_mem (by repeat (first | with_reducible exact mm0 | refine mmS ?_))) Asks.nil)) (idist_con (FIn.some (hqx.mono (by decide)))) rfl ca42 ⟨rfl, rfl⟩ ?_
              exact fun v φo hP => JL_nil (JE_stepC φo rfl hP (fun p hp => mapB_l hp) (fun p hp => mapB_r (ss0 p hp))))), OblS_V (fun vals ex ψ => (by
              refine JL_normQ ⟨55, [(45, _), (46, _), (47, _)], _⟩ (_ :: _ :: _ :: _ :: _ :: _ :: _ :: _ :: _ :: _ :: _ :: _ :: _ :: _ :: ψ) rfl rfl ?_
              refine JL_loadA (vs := [_, _, _]) 2 ty35 rfl rfl ⟨rfl, rfl, rfl, trivial⟩ ?_
              exact JL_nil (JE_stepV rfl ss0))), trivial⟩ (by kernel_rfl) (fun vals bs => ?_)
          refine JL_normL [_, _, _] ⟨55, [(45, _), (46, _), (47, _)], _⟩ [box _ _ [_, _, _], box _ _ [_, _, _], box _ _ [_, _, _], box _ _ [_, _, _]] [_, _, _, _, _, _, _, _, _, _, _, _, _, _, _] rfl rfl rfl rfl ?_
          generalize vals (0 + 1) = x46
          refine JL_usePost mm0 (fun φo hP => ?_)
          obtain ⟨ad46, cp46, be46, ce46, rfl, rfl⟩ := hP
          refine JL_norm _ [box _ _ [_, _, _], box _ _ [_, _, _], box _ _ [_, _, _], box _ _ [_, _, _]] [_, _, _, _, _, _, _, _, _, _, _, _, _, _, _, _, _] rfl rfl rfl ?_
          refine JL_callF' (Asks.cons (holds_of_mem (by repeat (first | with_reducible exact mm0 | refine mmS ?_))) (Asks.cons (holds_of_mem (by repeat (first | with_reducible exact mm0 | refine mmS ?_))) Asks.nil)) (idist_con (FIn.some (hqR.mono (by decide)))) rfl ca42 ⟨rfl, rfl⟩ ?_
          rintro _ _ ⟨ad48, cp48, be48, ce48, rfl, rfl⟩
          refine JL_callF' (Asks.cons (holds_of_mem (by repeat (first | with_reducible exact mm0 | refine mmS ?_))) (Asks.cons (holds_of_mem (by repeat (first | with_reducible exact mm0 | refine mmS ?_))) (Asks.cons (holds_of_mem (by repeat (first | with_reducible exact mm0 | refine mmS ?_))) (Asks.cons (holds_of_mem (by repeat (first | with_reducible exact mm0 | refine mmS ?_))) Asks.nil)))) (fcmpq_con (FIn.some ((qs_absq hqx).mono (by decide))) (FIn.some ((qs_absq hqR).mono (by decide)))) rfl ca23 ⟨rfl, rfl, rfl⟩ ?_
          rintro _ _ ⟨rfl, rfl⟩
          refine JL_lss rfl rfl ?_
          refine JL_split (fun h50 => ?_) (fun h50 => ?_)
          · refine JL_done_up 55 [box _ _ [_, _, _], box _ _ [_, _, _], box _ _ [_, _, _], box _ _ [_, _, _]] [_, _, _, _, _, _, _, _, _, _, _, _, _, _, _, _, _, _, _] rfl rfl (by simp only [nrmF]; rfl) rfl rfl ?_
            refine JC_true rfl ?_
            refine JC_drawT mixed 3 [spV 51 [] _, spV 52 [] _, spV 10 [0] _] ⟨OblS_V (fun vals ex ψ => (by
                refine JL_normQ ⟨55, [(51, _), (52, _), (10, _)], _⟩ (_ :: _ :: _ :: _ :: _ :: _ :: _ :: _ :: _ :: _ :: _ :: _ :: _ :: _ :: _ :: _ :: _ :: _ :: _ :: ψ) rfl rfl ?_
                refine JL_move rfl ?_
                exact JL_nil (JE_stepV rfl ss0))), OblS_V (fun vals ex ψ => (by
                refine JL_normQ ⟨55, [(51, _), (52, _), (10, _)], _⟩ (_ :: _ :: _ :: _ :: _ :: _ :: _ :: _ :: _ :: _ :: _ :: _ :: _ :: _ :: _ :: _ :: _ :: _ :: _ :: ψ) rfl rfl ?_
                refine JL_loadA (vs := [_, _, _]) 3 ty35 rfl rfl ⟨rfl, rfl, rfl, trivial⟩ ?_
                exact JL_nil (JE_stepV rfl ss0))), OblS_V (fun vals ex ψ => (by
                refine JL_normQ ⟨55, [(51, _), (52, _), (10, _)], _⟩ (_ :: _ :: _ :: _ :: _ :: _ :: _ :: _ :: _ :: _ :: _ :: _ :: _ :: _ :: _ :: _ :: _ :: _ :: _ :: ψ) rfl rfl ?_
                refine JL_assign rfl ?_
                exact JL_nil (JE_stepV rfl ss0))), trivial⟩ (by kernel_rfl) (fun vals bs => ?_)
            refine JL_normL [_] ⟨55, [(51, _), (52, _), (10, _)], _⟩ [box _ _ [_, _, _], box _ _ [_, _, _], box _ _ [_, _, _], box _ _ [_, _, _]] [_, _, _, _, _, _, _, _, _, _, _, _, _, _, _, _, _, _, _] rfl rfl rfl rfl ?_
            refine JL_store (vs := [_, _, _]) 2 ty35 rfl rfl rfl (AllOne.cons rfl (AllOne.cons rfl (AllOne.cons rfl AllOne.nil))) rfl (Nat.le_of_ble_eq_true rfl) ?_
            refine JL_nil_up 55 [box _ _ [_, _, _], box _ _ [_, _, _], box _ _ [_, _, _], box _ _ [_, _, _]] [_, _, _, _, _, _, _, _, _, _, _, _, _, _, _, _, _, _, _] rfl rfl (by simp only [nrmF]; rfl) rfl rfl ?_
            refine JE_block_normal ?_
            refine JE_then ?_
            refine JC_region ?_
            refine JL_move rfl ?_
            refine JL_add_to rfl rfl (IntWalk.i64_in _ (by omega)) ?_
            rw [show (((i + 2 : Nat) : Int) + 1 : Int) = ((i + 1 + 2 : Nat) : Int) from by omega]
            refine JL_assign rfl ?_
            refine JL_nil_up 55 [box _ _ [_, _, _], box _ _ [_, _, _], box _ _ [_, _, _], box _ _ [_, _, _]] [_, _, _, _, _, _, _, _, _, _, _, _, _, _, _, _, _, _, _] rfl rfl (by simp only [nrmF]; rfl) rfl rfl ?_
            refine JE_dropAt 3 ?_
            refine JE_norm _ [box _ _ [_, _, _], box _ _ [_, _, _], box _ _ [_, _, _]] [_, _, _, _, _, _, _, _, _, _, _, _, _, _, _, _, _, _, _] rfl rfl rfl ?_
            refine JE_nextS (i + 1, ((i + 2 : Nat) : Int), mulX w q1 i, ad44, cp44, be44, ce44) (by kernel_rfl) ?_ ?_ (by kernel_rfl) ?_
            · exact ⟨by omega, mulR_pick hR (cmpQ_neg.1 h50)⟩
            · first | omega | (dsimp only; omega)
            · exact subset_app (subset_cons (by repeat (first | with_reducible exact mm0 | refine mmS ?_)) (subset_cons (by repeat (first | with_reducible exact mm0 | refine mmS ?_)) subset_nil)) (ssS (ssS (ssS (ssS (ssS (ssS (ssS (ssS (ssS (ssS (ssS (ssS (ssS ss0)))))))))))))
          · refine JL_done_up 55 [box _ _ [_, _, _], box _ _ [_, _, _], box _ _ [_, _, _], box _ _ [_, _, _]] [_, _, _, _, _, _, _, _, _, _, _, _, _, _, _, _, _, _, _] rfl rfl (by simp only [nrmF]; rfl) rfl rfl ?_
            refine JC_false rfl ?_
            refine JC_skip ?_
            refine JE_block_normal ?_
            refine JE_then ?_
            refine JC_region ?_
            refine JL_move rfl ?_
            refine JL_add_to rfl rfl (IntWalk.i64_in _ (by omega)) ?_
            rw [show (((i + 2 : Nat) : Int) + 1 : Int) = ((i + 1 + 2 : Nat) : Int) from by omega]
            refine JL_assign rfl ?_
            refine JL_nil_up 55 [box _ _ [_, _, _], box _ _ [_, _, _], box _ _ [_, _, _], box _ _ [_, _, _]] [_, _, _, _, _, _, _, _, _, _, _, _, _, _, _, _, _, _, _] rfl rfl (by simp only [nrmF]; rfl) rfl rfl ?_
            refine JE_dropAt 3 ?_
            refine JE_norm _ [box _ _ [_, _, _], box _ _ [_, _, _], box _ _ [_, _, _]] [_, _, _, _, _, _, _, _, _, _, _, _, _, _, _, _, _, _, _] rfl rfl rfl ?_
            refine JE_nextS (i + 1, k0, q, ad, c, be, e) (by kernel_rfl) ?_ ?_ (by kernel_rfl) ?_
            · exact ⟨by omega, mulR_hold hR (fun e => h50 (cmpQ_neg.2 e))⟩
            · first | omega | (dsimp only; omega)
            · exact subset_app (subset_cons (by repeat (first | with_reducible exact mm0 | refine mmS ?_)) (subset_cons (by repeat (first | with_reducible exact mm0 | refine mmS ?_)) subset_nil)) (ssS (ssS (ssS (ssS (ssS (ssS (ssS (ssS (ssS (ssS (ssS (ssS (ssS ss0)))))))))))))
        · refine JL_done_up 55 [box _ _ [_, _, _], box _ _ [_, _, _], box _ _ [_, _, _]] [_, _, _, _, _, _, _, _] rfl rfl (by simp only [nrmF]; rfl) rfl rfl ?_
          refine JC_false rfl ?_
          refine JC_exit ?_
          refine JE_then_exit ?_
          refine JE_nextS_exit ?_
          refine JE_block_exit ?_
          refine JE_then ?_
          refine JC_seq ?_
          refine JC_drawT mixed 3 [spV 53 [] _, spV 54 [] _, spV 6 [0] _] ⟨OblS_V (fun vals ex ψ => (by
              refine JL_normQ ⟨55, [(53, _), (54, _), (6, _)], _⟩ (_ :: _ :: _ :: _ :: _ :: _ :: _ :: _ :: ψ) rfl rfl ?_
              refine JL_move rfl ?_
              exact JL_nil (JE_stepV rfl ss0))), OblS_V (fun vals ex ψ => (by
              refine JL_normQ ⟨55, [(53, _), (54, _), (6, _)], _⟩ (_ :: _ :: _ :: _ :: _ :: _ :: _ :: _ :: ψ) rfl rfl ?_
              refine JL_loadA (vs := [_, _, _]) 2 ty35 rfl rfl ⟨rfl, rfl, rfl, trivial⟩ ?_
              exact JL_nil (JE_stepV rfl ss0))), OblS_V (fun vals ex ψ => (by
              refine JL_normQ ⟨55, [(53, _), (54, _), (6, _)], _⟩ (_ :: _ :: _ :: _ :: _ :: _ :: _ :: _ :: ψ) rfl rfl ?_
              refine JL_assign rfl ?_
              exact JL_nil (JE_stepV rfl ss0))), trivial⟩ (by kernel_rfl) (fun vals bs => ?_)
          refine JL_normL [_, _] ⟨55, [(53, _), (54, _), (6, _)], _⟩ [box _ _ [_, _, _], box _ _ [_, _, _], box _ _ [_, _, _]] [_, _, _, _, _, _, _, _] rfl rfl rfl rfl ?_
          refine JL_store (vs := [_, _, _]) 1 ty35 rfl rfl rfl (AllOne.cons rfl (AllOne.cons rfl (AllOne.cons rfl AllOne.nil))) rfl (Nat.le_of_ble_eq_true rfl) ?_
          refine JL_assign rfl ?_
          refine JL_done_up 55 [box _ _ [_, _, _], box _ _ [_, _, _], box _ _ [_, _, _]] [_, _, _, _, _, _, _, _] rfl rfl (by simp only [nrmF]; rfl) rfl rfl ?_
          refine JC_ret ?_
          have hie : i = m.toNat - 1 := by omega
          have he : mulE w q1 m = 0 := by rw [mulE_lim h15 h19]; exact Classical.byContradiction h26
          rw [hie] at hR
          refine JE_ret (vs := [_, _, _]) [vCells ad (u32s (fnum (some (q)))), vCells be (u32s (fden (some (q))))] Tryd.results20 ⟨rfl, RV.cell (vs := [_, _, _]) 1 ty35 rfl rfl ⟨rfl, rfl, rfl, trivial⟩, rfl, rfl⟩ ?_ ?_
          · rw [mulK_ok he, mulO_ok he, he, hR]; exact ⟨ad, c, be, e, rfl, rfl⟩
          · exact (all_cons (by repeat (first | with_reducible exact mm0 | refine mmS ?_)) (all_cons (by repeat (first | with_reducible exact mm0 | refine mmS ?_)) all_nil))
    · refine JL_guard_yes rfl rfl ?_
      refine JL_not rfl ?_
      rw [Bool.not_false]
      refine JL_pick_f rfl rfl ?_
      refine JL_done_up 55 [box _ _ [_, _, _], box _ _ [_, _, _]] [_, _] rfl rfl (by simp only [nrmF]; rfl) rfl rfl ?_
      refine JC_true rfl ?_
      refine JC_seq ?_
      refine JC_region ?_
      refine JL_build (cs := [_, _, _]) [] st35 rfl rfl ?_
      refine JL_assign rfl ?_
      refine JL_store (vs := [_, _, _]) 1 ty35 rfl rfl rfl (AllOne.cons rfl (AllOne.cons rfl (AllOne.cons rfl AllOne.nil))) rfl (Nat.le_of_ble_eq_true rfl) ?_
      refine JL_assign rfl ?_
      refine JL_done_up 55 [box _ _ [_, _, _], box _ _ [_, _, _]] [_, _] rfl rfl (by simp only [nrmF]; rfl) rfl rfl ?_
      refine JC_ret ?_
      refine JE_then_ret ?_
      have he : mulE w q1 m = 1 := mulE_no (by first | exact .inl h15 | exact .inr h19)
      refine JE_nilView ?_
      refine JE_ret (vs := [_, _, _]) [vCells none (u32s []), vCells none (u32s [])] Tryd.results20 ⟨rfl, RV.cell (vs := [_, _, _]) 1 ty35 rfl rfl ⟨rfl, rfl, rfl, trivial⟩, rfl, rfl⟩ ?_ ?_
      · rw [mulK_no (by rw [he]; decide), mulO_no (by rw [he]; decide), he]; exact ⟨none, 0, none, 0, rfl, rfl⟩
      · exact (all_cons (by repeat (first | with_reducible exact mm0 | refine mmS ?_)) (all_cons (by repeat (first | with_reducible exact mm0 | refine mmS ?_)) all_nil))
  · refine JL_not rfl ?_
    rw [Bool.not_false]
    refine JL_move rfl ?_
    refine JL_guard_no rfl rfl ?_
    refine JL_guard_no rfl rfl ?_
    refine JL_guard_no rfl rfl ?_
    refine JL_pick_t rfl rfl ?_
    refine JL_done_up 55 [box _ _ [_, _, _], box _ _ [_, _, _]] [_, _] rfl rfl (by simp only [nrmF]; rfl) rfl rfl ?_
    refine JC_true rfl ?_
    refine JC_seq ?_
    refine JC_region ?_
    refine JL_build (cs := [_, _, _]) [] st35 rfl rfl ?_
    refine JL_assign rfl ?_
    refine JL_store (vs := [_, _, _]) 1 ty35 rfl rfl rfl (AllOne.cons rfl (AllOne.cons rfl (AllOne.cons rfl AllOne.nil))) rfl (Nat.le_of_ble_eq_true rfl) ?_
    refine JL_assign rfl ?_
    refine JL_done_up 55 [box _ _ [_, _, _], box _ _ [_, _, _]] [_, _] rfl rfl (by simp only [nrmF]; rfl) rfl rfl ?_
    refine JC_ret ?_
    refine JE_then_ret ?_
    have he : mulE w q1 m = 1 := mulE_no (by first | exact .inl h15 | exact .inr h19)
    refine JE_nilView ?_
    refine JE_ret (vs := [_, _, _]) [vCells none (u32s []), vCells none (u32s [])] Tryd.results20 ⟨rfl, RV.cell (vs := [_, _, _]) 1 ty35 rfl rfl ⟨rfl, rfl, rfl, trivial⟩, rfl, rfl⟩ ?_ ?_
    · rw [mulK_no (by rw [he]; decide), mulO_no (by rw [he]; decide), he]; exact ⟨none, 0, none, 0, rfl, rfl⟩
    · exact (all_cons (by repeat (first | with_reducible exact mm0 | refine mmS ?_)) (all_cons (by repeat (first | with_reducible exact mm0 | refine mmS ?_)) all_nil))

end Go.Fw.K
