/- Walks through functions of the given program: each meets its contract. (Printed by a program of this repo.) -/
import Derived.Test.YtjolkfkekeolcaaGreatDoorS13
import Derived.Test.YtjolkfkekeolcaaGreatDoorFwQ
import Derived.Test.YtjolkfkekeolcaaGreatDoorStdI
import Derived.Test.YtjolkfkekeolcaaGreatDoorProg
namespace Go.Fw.S14
open Go Go.RowKit Go.Proofs Go.Nat9 Go.Fw
attribute [local irreducible] JC JL JE
theorem ca27 : callable Tryz.prog 27 = true := by kernel_rfl
theorem ca73 : callable Tryz.prog 73 = true := by kernel_rfl
theorem sl48 : slOf Tryz.prog 48 = some (26, 3, 56, [.bool false, .slice none 0 0, .slice none 0 0]) := by kernel_rfl
theorem ty26 : tyOf Tryz.prog 26 = some (true, 3) := by kernel_rfl
end Go.Fw.S14
namespace Go.Fw.K
open Go Go.RowKit Go.Proofs Go.Nat9 Go.Fw Go.Fw.S14
attribute [local irreducible] JC JL JE

theorem idxF_con {ad3 : Option Addr} {c3 : Nat} {l : List Fi} {f : FuncId} {caps : List Value} {vc : VP} (hcf : callable Tryz.prog f = true) (p : Nat → Bool) (hn : l.length ≤ 9223372036854775807) (hc : ∀ k, k < l.length → ConF Tryz.prog f ([.agg #[.bool (l.getD k dI).s, .slice (l.getD k dI).ad (l.getD k dI).n (l.getD k dI).c, .slice (l.getD k dI).be (l.getD k dI).m (l.getD k dI).e]] ++ caps) [vCells (l.getD k dI).ad (u32s (l.getD k dI).L), vCells (l.getD k dI).be (u32s (l.getD k dI).M), vc] (fun v φo => v = .bool (p k) ∧ φo = [])) :
    ConF Tryz.prog 73 [.slice ad3 l.length c3, .func (.func f) #[] caps.toArray] [vCells ad3 (rcells l), vFis l, vc]
      (fun v φo => ∃ r, v = .int .i64 r ∧ φo = [] ∧ firstI p l.length r) := by
  refine ConF_of Tryz.func73 rfl 19 _ rfl rfl ?_
  intro w0
  refine JC_norm ⟨19, [], [_, _, _, _, _, _, _, _, _, _, _, _, _, _, _, _, _, _, _]⟩ [] [_, _, _] rfl rfl rfl ?_
  refine JC_seq ?_
  refine JC_region ?_
  refine JL_assign rfl ?_
  refine JL_done_up 19 [] [_, _, _] rfl rfl (by simp only [nrmF]; rfl) rfl rfl ?_
  refine JC_seq ?_
  refine JC_seq ?_
  refine JC_region ?_
  refine JL_move rfl ?_
  refine JL_len sl48 rfl ?_
  refine JL_move rfl ?_
  refine JL_done_up 19 [] [_, _, _] rfl rfl (by simp only [nrmF]; rfl) rfl rfl ?_
  refine JC_block ?_
  refine JC_loopS ((Nat)) (fun (k : Nat) => k ≤ l.length ∧ ∀ j, j < k → p j = false) (fun (k : Nat) => l.length - k) (fun u (k : Nat) => [none, none, none, none, some (u 4), some (u 5), none, none, some (.int .i64 (k : Nat)), some (u 9), some (u 10), some (u 11), some (u 12), some (u 13), some (u 14), some (u 15), some (u 16), some (u 17), some (u 18)]) (fun (k : Nat) => []) (fun (k : Nat) => []) (0) (by kernel_rfl) ?_ (by kernel_rfl) ?_ ?_
  · exact ⟨Nat.zero_le _, fun j hj => absurd hj (Nat.not_lt_zero j)⟩
  · exact subset_nil
  intro u k hC
  obtain ⟨hk, hpf⟩ := hC
  refine JC_norm ⟨19, [], [_, _, _, _, _, _, _, _, _, _, _, _, _, _, _, _, _, _, _]⟩ [] [_, _, _] rfl rfl rfl ?_
  refine JC_seq ?_
  refine JC_region ?_
  refine JL_lss rfl rfl ?_
  refine JL_split (fun h9 => ?_) (fun h9 => ?_)
  · refine JL_done_up 19 [] [_, _, _] rfl rfl (by simp only [nrmF]; rfl) rfl rfl ?_
    refine JC_seq ?_
    refine JC_true rfl ?_
    refine JC_skip ?_
    refine JE_then ?_
    refine JC_seq ?_
    refine JC_block ?_
    refine JC_seq ?_
    refine JC_region ?_
    refine JL_move rfl ?_
    refine JL_assign rfl ?_
    refine JL_done_up 19 [] [_, _, _] rfl rfl (by simp only [nrmF]; rfl) rfl rfl ?_
    refine JC_seq ?_
    refine JC_fisGet (f := false) (l := l) (l.getD k dI) (by repeat (first | with_reducible exact mm0 | refine mmS ?_)) (fi_mem (by omega)) ?_
    refine JC_region ?_
    refine JL_move rfl ?_
    refine JL_move rfl ?_
    refine JL_move rfl ?_
    refine JL_indexAddr k sl48 rfl rfl rfl (by omega) (by first | exact Reads.view (by repeat (first | with_reducible exact mm0 | refine mmS ?_))) (by rw [rcells_length]; omega) ?_
    refine JL_loadEA (vs := [_, _, _]) ty26 (Nat.zero_lt_succ _) rfl (by first | exact Reads.view (by repeat (first | with_reducible exact mm0 | refine mmS ?_))) (rcells_getA (by omega)) ?_
    refine JL_callD (Asks.cons (holds_of_mem (by repeat (first | with_reducible exact mm0 | refine mmS ?_))) (Asks.cons (holds_of_mem (by repeat (first | with_reducible exact mm0 | refine mmS ?_))) (Asks.cons (holds_of_mem (by repeat (first | with_reducible exact mm0 | refine mmS ?_))) Asks.nil))) (hc k (by omega)) rfl hcf ⟨rfl, rfl⟩ ?_
    rintro _ _ ⟨rfl, rfl⟩
    refine JL_done_up 19 [] [_, _, _, _, _] rfl rfl (by simp only [nrmF]; rfl) rfl rfl ?_
    refine JC_cond rfl (fun hb => ?_) (fun hb => ?_)
    · have h16 := hb
      refine JC_seq ?_
      refine JC_region ?_
      refine JL_move rfl ?_
      refine JL_assign rfl ?_
      refine JL_done_up 19 [] [_, _, _, _, _] rfl rfl (by simp only [nrmF]; rfl) rfl rfl ?_
      refine JC_ret ?_
      refine JE_block_ret ?_
      refine JE_then_ret ?_
      refine JE_nextS_ret ?_
      refine JE_block_ret ?_
      refine JE_then_ret ?_
      refine JE_ret (vs := [_]) [] Tryz.results73 ⟨rfl, rfl⟩ ?_ ?_
      · exact ⟨_, rfl, rfl, .inr ⟨k, by omega, rfl, h16, hpf⟩⟩
      · exact all_nil
    · have h16 := hb
      refine JC_skip ?_
      refine JE_block_normal ?_
      refine JE_then ?_
      refine JC_region ?_
      refine JL_add_to rfl rfl (IntWalk.i64_in _ (by omega)) ?_
      refine JL_move rfl ?_
      refine JL_nil_up 19 [] [_, _, _, _, _] rfl rfl (by simp only [nrmF]; rfl) rfl rfl ?_
      refine JE_nextS (k + 1) (by kernel_rfl) ?_ ?_ (by kernel_rfl) ?_
      · exact ⟨by omega, fun j hj => by
        by_cases h : j = k
        · subst h; exact h16
        · exact hpf j (by omega)⟩
      · first | omega | (dsimp only; omega)
      · exact subset_app subset_nil (ssS (ssS ss0))
  · refine JL_done_up 19 [] [_, _, _] rfl rfl (by simp only [nrmF]; rfl) rfl rfl ?_
    refine JC_seq ?_
    refine JC_false rfl ?_
    refine JC_exit ?_
    refine JE_then_exit ?_
    refine JE_nextS_exit ?_
    refine JE_block_exit ?_
    refine JE_then ?_
    refine JC_seq ?_
    refine JC_region ?_
    refine JL_assign rfl ?_
    refine JL_done_up 19 [] [_, _, _] rfl rfl (by simp only [nrmF]; rfl) rfl rfl ?_
    refine JC_ret ?_
    refine JE_ret (vs := [_]) [] Tryz.results73 ⟨rfl, rfl⟩ ?_ ?_
    · exact ⟨_, rfl, rfl, .inl ⟨rfl, fun j hj => hpf j (by omega)⟩⟩
    · exact all_nil

theorem contF_con {ad3 : Option Addr} {c3 : Nat} {l : List Fi} {f : FuncId} {caps : List Value} {vc : VP} (hcf : callable Tryz.prog f = true) (p : Nat → Bool) (hn : l.length ≤ 9223372036854775807) (hc : ∀ k, k < l.length → ConF Tryz.prog f ([.agg #[.bool (l.getD k dI).s, .slice (l.getD k dI).ad (l.getD k dI).n (l.getD k dI).c, .slice (l.getD k dI).be (l.getD k dI).m (l.getD k dI).e]] ++ caps) [vCells (l.getD k dI).ad (u32s (l.getD k dI).L), vCells (l.getD k dI).be (u32s (l.getD k dI).M), vc] (fun v φo => v = .bool (p k) ∧ φo = [])) :
    ConF Tryz.prog 52 [.slice ad3 l.length c3, .func (.func f) #[] caps.toArray] [vCells ad3 (rcells l), vFis l, vc]
      (fun v φo => v = .bool ((List.range l.length).any p) ∧ φo = []) := by
  refine ConF_of Tryz.func52 rfl 9 _ rfl rfl ?_
  intro w0
  refine JC_norm ⟨9, [], [_, _, _, _, _, _, _, _, _]⟩ [] [_, _, _] rfl rfl rfl ?_
  refine JC_seq ?_
  refine JC_region ?_
  refine JL_assign rfl ?_
  refine JL_done_up 9 [] [_, _, _] rfl rfl (by simp only [nrmF]; rfl) rfl rfl ?_
  refine JC_seq ?_
  refine JC_region ?_
  refine JL_move rfl ?_
  refine JL_move rfl ?_
  refine JL_callF' (Asks.cons (holds_of_mem (by repeat (first | with_reducible exact mm0 | refine mmS ?_))) (Asks.cons (holds_of_mem (by repeat (first | with_reducible exact mm0 | refine mmS ?_))) (Asks.cons (holds_of_mem (by repeat (first | with_reducible exact mm0 | refine mmS ?_))) Asks.nil))) (idxF_con hcf p hn hc) rfl ca73 ⟨rfl, rfl, rfl⟩ ?_
  rintro _ _ ⟨r7, rfl, rfl, hr7⟩
  refine JL_geq rfl rfl ?_
  rw [any_of_first hr7]
  refine JL_assign rfl ?_
  refine JL_done_up 9 [] [_, _, _] rfl rfl (by simp only [nrmF]; rfl) rfl rfl ?_
  refine JC_ret ?_
  refine JE_ret (vs := [_]) [] Tryz.results52 ⟨rfl, rfl⟩ ?_ ?_
  · exact ⟨rfl, rfl⟩
  · exact all_nil

theorem bestcl_con {s1 : Bool} {ad1 : Option Addr} {n1 c1 : Nat} {L1 : List Nat} {be1 : Option Addr} {m1 e1 : Nat} {M1 : List Nat} {q1 : Rat} (g1 : FIn s1 n1 L1 m1 M1 q1 10) :
    ConF Tryz.prog 51 [.agg #[.bool s1, .slice ad1 n1 c1, .slice be1 m1 e1]] [vCells ad1 (u32s L1), vCells be1 (u32s M1)]
      (fun v φo => v = .bool (!decide (0 < q1)) ∧ φo = []) := by
  refine ConF_of Tryz.func51 rfl 6 _ rfl rfl ?_
  intro w0
  refine JC_norm ⟨6, [], [_, _, _, _, _, _]⟩ [] [_, _] rfl rfl rfl ?_
  refine JC_seq ?_
  refine JC_region ?_
  refine JL_box rfl rfl (fun b1 => ?_)
  refine JL_assign rfl ?_
  refine JL_done_up 6 [box _ _ [_, _, _]] [_, _] rfl rfl (by simp only [nrmF]; rfl) rfl rfl ?_
  refine JC_seq ?_
  refine JC_region ?_
  refine JL_loadA (vs := [_, _, _]) 0 ty26 rfl rfl ⟨rfl, rfl, rfl, trivial⟩ ?_
  refine JL_callF' (Asks.cons (holds_of_mem (by repeat (first | with_reducible exact mm0 | refine mmS ?_))) (Asks.cons (holds_of_mem (by repeat (first | with_reducible exact mm0 | refine mmS ?_))) Asks.nil)) (iunit_con (g1.mono (by decide))) rfl ca27 ⟨rfl, rfl⟩ ?_
  rintro _ _ ⟨rfl, rfl⟩
  refine JL_not rfl ?_
  refine JL_assign rfl ?_
  refine JL_done_up 6 [box _ _ [_, _, _]] [_, _] rfl rfl (by simp only [nrmF]; rfl) rfl rfl ?_
  refine JC_ret ?_
  refine JE_ret (vs := [_]) [] Tryz.results51 ⟨rfl, rfl⟩ ?_ ?_
  · exact ⟨rfl, rfl⟩
  · exact all_nil

end Go.Fw.K
