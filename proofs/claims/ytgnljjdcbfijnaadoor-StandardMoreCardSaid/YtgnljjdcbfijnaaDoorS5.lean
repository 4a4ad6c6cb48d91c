/- Walks through functions of the given program: each meets its contract. (Printed by a program of this repo.) -/
import Derived.Test.YtgnljjdcbfijnaaDoorS1
import Derived.Test.YtgnljjdcbfijnaaDoorS4
import Derived.Test.YtgnljjdcbfijnaaDoorF
import Derived.Test.YtgnljjdcbfijnaaDoorFrT
import Derived.Test.YtgnljjdcbfijnaaDoorProg
namespace Go.Fw.S5
open Go Go.RowKit Go.Proofs Go.Nat9 Go.Fw
attribute [local irreducible] JC JL JE
theorem ca10 : callable Tryd.prog 10 = true := by kernel_rfl
theorem ca18 : callable Tryd.prog 18 = true := by kernel_rfl
theorem ca23 : callable Tryd.prog 23 = true := by kernel_rfl
theorem ca37 : callable Tryd.prog 37 = true := by kernel_rfl
theorem ca38 : callable Tryd.prog 38 = true := by kernel_rfl
theorem fo41_0 : fOf Tryd.prog 41 0 = some 0 := by kernel_rfl
theorem fo41_1 : fOf Tryd.prog 41 1 = some 3 := by kernel_rfl
theorem ty35 : tyOf Tryd.prog 35 = some (true, 3) := by kernel_rfl
end Go.Fw.S5
namespace Go.Fw.K
open Go Go.RowKit Go.Proofs Go.Nat9 Go.Fw Go.Fw.S5
attribute [local irreducible] JC JL JE

theorem iunit_con {s1 : Bool} {ad1 : Option Addr} {n1 c1 : Nat} {L1 : List Nat} {be1 : Option Addr} {m1 e1 : Nat} {M1 : List Nat} {q1 : Rat} (g1 : FIn s1 n1 L1 m1 M1 q1 10000000) :
    ConF Tryd.prog 37 [.agg #[.bool s1, .slice ad1 n1 c1, .slice be1 m1 e1]] [vCells ad1 (u32s L1), vCells be1 (u32s M1)]
      (fun v φo => v = .bool (decide (0 < q1)) ∧ φo = []) := by
  refine ConF_of Tryd.func37 rfl 6 _ rfl rfl ?_
  intro w0
  refine JC_norm ⟨6, [], [_, _, _, _, _, _]⟩ [] [_, _] rfl rfl rfl ?_
  refine JC_seq ?_
  refine JC_region ?_
  refine JL_box rfl rfl (fun b1 => ?_)
  refine JL_assign rfl ?_
  refine JL_done_up 6 [box _ _ [_, _, _]] [_, _] rfl rfl (by simp only [nrmF]; rfl) rfl rfl ?_
  refine JC_seq ?_
  refine JC_region ?_
  refine JL_loadA (vs := [_, _, _]) 0 ty35 rfl rfl ⟨rfl, rfl, rfl, trivial⟩ ?_
  refine JL_callF' (Asks.cons (holds_of_mem (by repeat (first | with_reducible exact mm0 | refine mmS ?_))) (Asks.cons (holds_of_mem (by repeat (first | with_reducible exact mm0 | refine mmS ?_))) Asks.nil)) (fsign_con g1) rfl ca18 ⟨rfl, rfl⟩ ?_
  rintro _ _ ⟨rfl, rfl⟩
  refine JL_gtr rfl rfl ?_
  refine JL_split (fun h5 => ?_) (fun h5 => ?_)
  · refine JL_assign rfl ?_
    refine JL_done_up 6 [box _ _ [_, _, _]] [_, _] rfl rfl (by simp only [nrmF]; rfl) rfl rfl ?_
    refine JC_ret ?_
    refine JE_ret (vs := [_]) [] Tryd.results37 ⟨rfl, rfl⟩ ?_ ?_
    · rw [decide_eq_true (p := 0 < q1) (sgn_pos.1 h5)]; exact ⟨rfl, rfl⟩
    · exact all_nil
  · refine JL_assign rfl ?_
    refine JL_done_up 6 [box _ _ [_, _, _]] [_, _] rfl rfl (by simp only [nrmF]; rfl) rfl rfl ?_
    refine JC_ret ?_
    refine JE_ret (vs := [_]) [] Tryd.results37 ⟨rfl, rfl⟩ ?_ ?_
    · rw [decide_eq_false (p := 0 < q1) (fun h => h5 (sgn_pos.2 h))]; exact ⟨rfl, rfl⟩
    · exact all_nil

theorem fitscl_con {x : Se} (hx : qs x.lo.q 3 ∧ qs x.hi.q 3) {adu : Option Addr} {s1 : Bool} {ad1 : Option Addr} {n1 c1 : Nat} {L1 : List Nat} {be1 : Option Addr} {m1 e1 : Nat} {M1 : List Nat} {q1 : Rat} (g1 : FIn s1 n1 L1 m1 M1 q1 10) :
    ConF Tryd.prog 39 [.agg #[.bool (fneg (some x.lo.q)), .slice x.lo.ad (fnum (some x.lo.q)).length x.lo.c, .slice x.lo.be (fden (some x.lo.q)).length x.lo.e, .bool (fneg (some x.hi.q)), .slice x.hi.ad (fnum (some x.hi.q)).length x.hi.c, .slice x.hi.be (fden (some x.hi.q)).length x.hi.e], ptrAt adu 0] [vCells x.lo.ad (u32s (fnum (some x.lo.q))), vCells x.lo.be (u32s (fden (some x.lo.q))), vCells x.hi.ad (u32s (fnum (some x.hi.q))), vCells x.hi.be (u32s (fden (some x.hi.q))), vCells adu [.bool s1, .slice ad1 n1 c1, .slice be1 m1 e1], vCells ad1 (u32s L1), vCells be1 (u32s M1)]
      (fun v φo => v = .bool (decide (x.lo.q ≤ q1 ∧ q1 ≤ x.hi.q)) ∧ φo = []) := by
  refine ConF_of Tryd.func39 rfl 16 _ rfl rfl ?_
  intro w0
  refine JC_norm ⟨16, [], [_, _, _, _, _, _, _, _, _, _, _, _, _, _, _, _]⟩ [] [_, _, _, _, _, _, _] rfl rfl rfl ?_
  refine JC_seq ?_
  refine JC_region ?_
  refine JL_box rfl rfl (fun b2 => ?_)
  refine JL_assign rfl ?_
  refine JL_done_up 16 [box _ _ [_, _, _, _, _, _]] [_, _, _, _, _, _, _] rfl rfl (by simp only [nrmF]; rfl) rfl rfl ?_
  refine JC_seq ?_
  refine JC_region ?_
  refine JL_fieldAddr fo41_0 rfl ?_
  refine JL_loadA (vs := [_, _, _]) 0 ty35 rfl rfl ⟨rfl, rfl, rfl, trivial⟩ ?_
  refine JL_loadEA (vs := [_, _, _]) ty35 (Nat.zero_lt_succ _) rfl (by first | exact Reads.view (by repeat (first | with_reducible exact mm0 | refine mmS ?_))) (fun m v h => by rw [Nat.zero_add]; exact h) ?_
  refine JL_callF' (Asks.cons (holds_of_mem (by repeat (first | with_reducible exact mm0 | refine mmS ?_))) (Asks.cons (holds_of_mem (by repeat (first | with_reducible exact mm0 | refine mmS ?_))) (Asks.cons (holds_of_mem (by repeat (first | with_reducible exact mm0 | refine mmS ?_))) (Asks.cons (holds_of_mem (by repeat (first | with_reducible exact mm0 | refine mmS ?_))) Asks.nil)))) (fcmpq_con (FIn.some (hx.1.mono (by decide))) (g1.mono (by decide))) rfl ca23 ⟨rfl, rfl, rfl⟩ ?_
  rintro _ _ ⟨rfl, rfl⟩
  refine JL_leq rfl rfl ?_
  refine JL_split (fun h8 => ?_) (fun h8 => ?_)
  · refine JL_move rfl ?_
    refine JL_guard_yes rfl rfl ?_
    refine JL_loadEA (vs := [_, _, _]) ty35 (Nat.zero_lt_succ _) rfl (by first | exact Reads.view (by repeat (first | with_reducible exact mm0 | refine mmS ?_))) (fun m v h => by rw [Nat.zero_add]; exact h) ?_
    refine JL_guard_yes rfl rfl ?_
    refine JL_fieldAddr fo41_1 rfl ?_
    refine JL_guard_yes rfl rfl ?_
    refine JL_loadA (vs := [_, _, _]) 0 ty35 rfl rfl ⟨rfl, rfl, rfl, trivial⟩ ?_
    refine JL_guard_yes rfl rfl ?_
    refine JL_callF' (Asks.cons (holds_of_mem (by repeat (first | with_reducible exact mm0 | refine mmS ?_))) (Asks.cons (holds_of_mem (by repeat (first | with_reducible exact mm0 | refine mmS ?_))) (Asks.cons (holds_of_mem (by repeat (first | with_reducible exact mm0 | refine mmS ?_))) (Asks.cons (holds_of_mem (by repeat (first | with_reducible exact mm0 | refine mmS ?_))) Asks.nil)))) (fcmpq_con (g1.mono (by decide)) (FIn.some (hx.2.mono (by decide)))) rfl ca23 ⟨rfl, rfl, rfl⟩ ?_
    rintro _ _ ⟨rfl, rfl⟩
    refine JL_guard_yes rfl rfl ?_
    refine JL_leq rfl rfl ?_
    refine JL_split (fun h14 => ?_) (fun h14 => ?_)
    · refine JL_pick_t rfl rfl ?_
      refine JL_assign rfl ?_
      refine JL_done_up 16 [box _ _ [_, _, _, _, _, _]] [_, _, _, _, _, _, _] rfl rfl (by simp only [nrmF]; rfl) rfl rfl ?_
      refine JC_ret ?_
      refine JE_ret (vs := [_]) [] Tryd.results39 ⟨rfl, rfl⟩ ?_ ?_
      · rw [decide_eq_true (p := x.lo.q ≤ q1 ∧ q1 ≤ x.hi.q) ⟨cmpQ_le.1 h8, cmpQ_le.1 h14⟩]; exact ⟨rfl, rfl⟩
      · exact all_nil
    · refine JL_pick_t rfl rfl ?_
      refine JL_assign rfl ?_
      refine JL_done_up 16 [box _ _ [_, _, _, _, _, _]] [_, _, _, _, _, _, _] rfl rfl (by simp only [nrmF]; rfl) rfl rfl ?_
      refine JC_ret ?_
      refine JE_ret (vs := [_]) [] Tryd.results39 ⟨rfl, rfl⟩ ?_ ?_
      · rw [decide_eq_false (p := x.lo.q ≤ q1 ∧ q1 ≤ x.hi.q) (fun h => h14 (cmpQ_le.2 h.2))]; exact ⟨rfl, rfl⟩
      · exact all_nil
  · refine JL_move rfl ?_
    refine JL_guard_no rfl rfl ?_
    refine JL_guard_no rfl rfl ?_
    refine JL_guard_no rfl rfl ?_
    refine JL_guard_no rfl rfl ?_
    refine JL_guard_no rfl rfl ?_
    refine JL_pick_f rfl rfl ?_
    refine JL_assign rfl ?_
    refine JL_done_up 16 [box _ _ [_, _, _, _, _, _]] [_, _, _, _, _, _, _] rfl rfl (by simp only [nrmF]; rfl) rfl rfl ?_
    refine JC_ret ?_
    refine JE_ret (vs := [_]) [] Tryd.results39 ⟨rfl, rfl⟩ ?_ ?_
    · rw [decide_eq_false (p := x.lo.q ≤ q1 ∧ q1 ≤ x.hi.q) (fun h => h8 (cmpQ_le.2 h.1))]; exact ⟨rfl, rfl⟩
    · exact all_nil

theorem ifits_con {w tol m : Int} {s1 : Bool} {ad1 : Option Addr} {n1 c1 : Nat} {L1 : List Nat} {be1 : Option Addr} {m1 e1 : Nat} {M1 : List Nat} {q1 : Rat} (g1 : FIn s1 n1 L1 m1 M1 q1 10) :
    ConF Tryd.prog 14 [.int .i64 w, .agg #[.bool s1, .slice ad1 n1 c1, .slice be1 m1 e1], .int .i64 tol, .int .i64 m] [vCells ad1 (u32s L1), vCells be1 (u32s M1)]
      (fun v φo => v = .bool (fits38 w q1 tol m) ∧ φo = []) := by
  refine ConF_of Tryd.func14 rfl 28 _ rfl rfl ?_
  intro w0
  refine JC_norm ⟨28, [], [_, _, _, _, _, _, _, _, _, _, _, _, _, _, _, _, _, _, _, _, _, _, _, _, _, _, _, _]⟩ [] [_, _] rfl rfl rfl ?_
  refine JC_seq ?_
  refine JC_region ?_
  refine JL_box rfl rfl (fun b5 => ?_)
  refine JL_assign rfl ?_
  refine JL_done_up 28 [box _ _ [_, _, _]] [_, _] rfl rfl (by simp only [nrmF]; rfl) rfl rfl ?_
  refine JC_seq ?_
  refine JC_region ?_
  refine JL_move rfl ?_
  refine JL_move rfl ?_
  refine JL_move rfl ?_
  refine JL_callF' Asks.nil (ispans_con) rfl ca10 ⟨rfl, rfl, rfl, rfl⟩ ?_
  rintro _ _ ⟨ad15, c15, l15, rfl, hl15, rfl⟩
  refine JL_move rfl ?_
  refine JL_extract rfl rfl ?_
  refine JL_extract rfl rfl ?_
  refine JL_assign rfl ?_
  refine JL_assign rfl ?_
  refine JL_done_up 28 [box _ _ [_, _, _]] [_, _, _, _] rfl rfl (by simp only [nrmF]; rfl) rfl rfl ?_
  refine JC_seq ?_
  refine JC_seq ?_
  refine JC_region ?_
  refine JL_move rfl ?_
  refine JL_neq rfl rfl ?_
  refine JL_split (fun h19 => ?_) (fun h19 => ?_)
  · refine JL_move rfl ?_
    refine JL_guard_no rfl rfl ?_
    refine JL_guard_no rfl rfl ?_
    refine JL_guard_no rfl rfl ?_
    refine JL_pick_t rfl rfl ?_
    refine JL_done_up 28 [box _ _ [_, _, _]] [_, _, _, _] rfl rfl (by simp only [nrmF]; rfl) rfl rfl ?_
    refine JC_true rfl ?_
    refine JC_seq ?_
    refine JC_region ?_
    refine JL_assign rfl ?_
    refine JL_done_up 28 [box _ _ [_, _, _]] [_, _, _, _] rfl rfl (by simp only [nrmF]; rfl) rfl rfl ?_
    refine JC_ret ?_
    refine JE_then_ret ?_
    refine JE_ret (vs := [_]) [] Tryd.results14 ⟨rfl, rfl⟩ ?_ ?_
    · rw [fits38_no (by first | exact .inl h19 | exact .inr h22)]; exact ⟨rfl, rfl⟩
    · exact all_nil
  · refine JL_move rfl ?_
    refine JL_guard_yes rfl rfl ?_
    refine JL_loadA (vs := [_, _, _]) 0 ty35 rfl rfl ⟨rfl, rfl, rfl, trivial⟩ ?_
    refine JL_guard_yes rfl rfl ?_
    refine JL_callF' (Asks.cons (holds_of_mem (by repeat (first | with_reducible exact mm0 | refine mmS ?_))) (Asks.cons (holds_of_mem (by repeat (first | with_reducible exact mm0 | refine mmS ?_))) Asks.nil)) (iunit_con (g1.mono (by decide))) rfl ca37 ⟨rfl, rfl⟩ ?_
    rintro _ _ ⟨rfl, rfl⟩
    refine JL_split (fun h22 => ?_) (fun h22 => ?_)
    · refine JL_guard_yes rfl rfl ?_
      refine JL_not rfl ?_
      rw [Bool.not_true]
      refine JL_pick_f rfl rfl ?_
      refine JL_done_up 28 [box _ _ [_, _, _]] [_, _, _, _] rfl rfl (by simp only [nrmF]; rfl) rfl rfl ?_
      refine JC_false rfl ?_
      refine JC_skip ?_
      refine JE_then ?_
      refine JC_seq ?_
      have hle := spL_len w tol m
      rw [← hl15, List.length_map] at hle
      refine JC_region ?_
      refine JL_move rfl ?_
      refine JL_makeFunc (vs := [_]) ⟨rfl, rfl⟩ ?_
      refine JL_callF' (Asks.cons (holds_of_mem (by repeat (first | with_reducible exact mm0 | refine mmS ?_))) (Asks.cons (holds_of_mem (by repeat (first | with_reducible exact mm0 | refine mmS ?_))) (Asks.cons (Asks.list (l := [vCells (some ⟨b5, 0, none⟩) [.bool s1, .slice ad1 n1 c1, .slice be1 m1 e1], vCells ad1 (u32s L1), vCells be1 (u32s M1)]) (Asks.cons (holds_of_box 0 rfl) (Asks.cons (holds_of_mem (by repeat (first | with_reducible exact mm0 | refine mmS ?_))) (Asks.cons (holds_of_mem (by repeat (first | with_reducible exact mm0 | refine mmS ?_))) Asks.nil)))) Asks.nil))) (contS_con (f := 39) (caps := [.pointer (some ⟨b5, 0, none⟩)]) (vc := vList [vCells (some ⟨b5, 0, none⟩) [.bool s1, .slice ad1 n1 c1, .slice be1 m1 e1], vCells ad1 (u32s L1), vCells be1 (u32s M1)]) (by kernel_rfl) (fun k => decide ((l15.getD k dS).lo.q ≤ q1 ∧ q1 ≤ (l15.getD k dS).hi.q)) (by omega) (fun k hk => ConF.ofList (ps := [vCells (l15.getD k dS).lo.ad (u32s (fnum (some (l15.getD k dS).lo.q))), vCells (l15.getD k dS).lo.be (u32s (fden (some (l15.getD k dS).lo.q))), vCells (l15.getD k dS).hi.ad (u32s (fnum (some (l15.getD k dS).hi.q))), vCells (l15.getD k dS).hi.be (u32s (fden (some (l15.getD k dS).hi.q)))]) (fitscl_con (x := l15.getD k dS) (adu := (some ⟨b5, 0, none⟩)) (se_qs hl15 (qs_spL w tol m) k) g1))) rfl ca38 ⟨rfl, rfl, rfl⟩ ?_
      rintro _ _ ⟨rfl, rfl⟩
      refine JL_assign rfl ?_
      refine JL_done_up 28 [box _ _ [_, _, _]] [_, _, _, _] rfl rfl (by simp only [nrmF]; rfl) rfl rfl ?_
      refine JC_ret ?_
      refine JE_ret (vs := [_]) [] Tryd.results14 ⟨rfl, rfl⟩ ?_ ?_
      · rw [fits38_ok (Classical.byContradiction h19) h22, ← hl15, inS_range]; exact ⟨rfl, rfl⟩
      · exact all_nil
    · refine JL_guard_yes rfl rfl ?_
      refine JL_not rfl ?_
      rw [Bool.not_false]
      refine JL_pick_f rfl rfl ?_
      refine JL_done_up 28 [box _ _ [_, _, _]] [_, _, _, _] rfl rfl (by simp only [nrmF]; rfl) rfl rfl ?_
      refine JC_true rfl ?_
      refine JC_seq ?_
      refine JC_region ?_
      refine JL_assign rfl ?_
      refine JL_done_up 28 [box _ _ [_, _, _]] [_, _, _, _] rfl rfl (by simp only [nrmF]; rfl) rfl rfl ?_
      refine JC_ret ?_
      refine JE_then_ret ?_
      refine JE_ret (vs := [_]) [] Tryd.results14 ⟨rfl, rfl⟩ ?_ ?_
      · rw [fits38_no (by first | exact .inl h19 | exact .inr h22)]; exact ⟨rfl, rfl⟩
      · exact all_nil

end Go.Fw.K
