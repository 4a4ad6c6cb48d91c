/- Walks through functions of the given program: each meets its contract. (Printed by a program of this repo.) -/
import Derived.Test.YtgnljjdcbfijnaaDoorFwQ
import Derived.Test.YtgnljjdcbfijnaaDoorFrT
import Derived.Test.YtgnljjdcbfijnaaDoorProg
namespace Go.Fw.S4
open Go Go.RowKit Go.Proofs Go.Nat9 Go.Fw
attribute [local irreducible] JC JL JE
theorem ca60 : callable Tryd.prog 60 = true := by kernel_rfl
theorem ca87 : callable Tryd.prog 87 = true := by kernel_rfl
theorem sl25 : slOf Tryd.prog 25 = some (41, 6, 112, [.bool false, .slice none 0 0, .slice none 0 0, .bool false, .slice none 0 0, .slice none 0 0]) := by kernel_rfl
theorem sl54 : slOf Tryd.prog 54 = some (3, 1, 8, [.int .i64 0]) := by kernel_rfl
theorem ty3 : tyOf Tryd.prog 3 = some (false, 1) := by kernel_rfl
theorem ty41 : tyOf Tryd.prog 41 = some (true, 6) := by kernel_rfl
end Go.Fw.S4
namespace Go.Fw.K
open Go Go.RowKit Go.Proofs Go.Nat9 Go.Fw Go.Fw.S4
attribute [local irreducible] JC JL JE

theorem idxS_con {ad : Option Addr} {c : Nat} {l : List Se} {f : FuncId} {caps : List Value} {vc : VP} (hcf : callable Tryd.prog f = true) (p : Nat → Bool) (hn : l.length ≤ 9223372036854775807) (hc : ∀ k, k < l.length → ConF Tryd.prog f ([.agg #[.bool (fneg (some (l.getD k dS).lo.q)), .slice (l.getD k dS).lo.ad (fnum (some (l.getD k dS).lo.q)).length (l.getD k dS).lo.c, .slice (l.getD k dS).lo.be (fden (some (l.getD k dS).lo.q)).length (l.getD k dS).lo.e, .bool (fneg (some (l.getD k dS).hi.q)), .slice (l.getD k dS).hi.ad (fnum (some (l.getD k dS).hi.q)).length (l.getD k dS).hi.c, .slice (l.getD k dS).hi.be (fden (some (l.getD k dS).hi.q)).length (l.getD k dS).hi.e]] ++ caps) [vCells (l.getD k dS).lo.ad (u32s (fnum (some (l.getD k dS).lo.q))), vCells (l.getD k dS).lo.be (u32s (fden (some (l.getD k dS).lo.q))), vCells (l.getD k dS).hi.ad (u32s (fnum (some (l.getD k dS).hi.q))), vCells (l.getD k dS).hi.be (u32s (fden (some (l.getD k dS).hi.q))), vc] (fun v φo => v = .bool (p k) ∧ φo = [])) :
    ConF Tryd.prog 60 [.slice ad l.length c, .func (.func f) #[] caps.toArray] [vCells ad (scells l), vSes l, vc]
      (fun v φo => ∃ r, v = .int .i64 r ∧ φo = [] ∧ firstI p l.length r) := by
  refine ConF_of Tryd.func60 rfl 19 _ rfl rfl ?_
  intro w0
  refine JC_norm ⟨19, [], [_, _, _, _, _, _, _, _, _, _, _, _, _, _, _, _, _, _, _]⟩ [] [_, _, _] rfl rfl rfl ?_
  refine JC_seq ?_
  refine JC_region ?_
  refine JL_assign rfl ?_
  refine JL_done_up 19 [] [_, _, _] rfl rfl (by simp only [nrmF]; rfl) rfl rfl ?_
  refine JC_seq ?_
  refine JC_seq ?_
  refine JC_region ?_
  refine JL_move rfl ?_
  refine JL_len sl25 rfl ?_
  refine JL_move rfl ?_
  refine JL_done_up 19 [] [_, _, _] rfl rfl (by simp only [nrmF]; rfl) rfl rfl ?_
  refine JC_block ?_
  refine JC_loopS ((Nat)) (fun (k : Nat) => k ≤ l.length ∧ ∀ j, j < k → p j = false) (fun (k : Nat) => l.length - k) (fun u (k : Nat) => [none, none, none, none, some (u 4), some (u 5), none, none, some (.int .i64 (k : Nat)), some (u 9), some (u 10), some (u 11), some (u 12), some (u 13), some (u 14), some (u 15), some (u 16), some (u 17), some (u 18)]) (fun (k : Nat) => []) (fun (k : Nat) => []) (0) (by kernel_rfl) ?_ (by kernel_rfl) ?_ ?_
  · exact ⟨Nat.zero_le _, fun j hj => absurd hj (Nat.not_lt_zero j)⟩
  · exact subset_nil
  intro u k hC
  obtain ⟨hk, hpf⟩ := hC
  refine JC_norm ⟨19, [], [_, _, _, _, _, _, _, _, _, _, _, _, _, _, _, _, _, _, _]⟩ [] [_, _, _] rfl rfl rfl ?_
  refine JC_seq ?_
  refine JC_region ?_
  refine JL_lss rfl rfl ?_
  refine JL_split (fun h9 => ?_) (fun h9 => ?_)
  · refine JL_done_up 19 [] [_, _, _] rfl rfl (by simp only [nrmF]; rfl) rfl rfl ?_
    refine JC_seq ?_
    refine JC_true rfl ?_
    refine JC_skip ?_
    refine JE_then ?_
    refine JC_seq ?_
    refine JC_block ?_
    refine JC_seq ?_
    refine JC_region ?_
    refine JL_move rfl ?_
    refine JL_assign rfl ?_
    refine JL_done_up 19 [] [_, _, _] rfl rfl (by simp only [nrmF]; rfl) rfl rfl ?_
    refine JC_seq ?_
    refine JC_sesGet (f := false) (l := l) (l.getD k dS) (by repeat (first | with_reducible exact mm0 | refine mmS ?_)) (se_mem (by omega)) ?_
    refine JC_region ?_
    refine JL_move rfl ?_
    refine JL_move rfl ?_
    refine JL_move rfl ?_
    refine JL_indexAddr k sl25 rfl rfl rfl (by omega) (by first | exact Reads.view (by repeat (first | with_reducible exact mm0 | refine mmS ?_))) (by rw [scells_length]; omega) ?_
    refine JL_loadEA (vs := [_, _, _, _, _, _]) ty41 (Nat.zero_lt_succ _) rfl (by first | exact Reads.view (by repeat (first | with_reducible exact mm0 | refine mmS ?_))) (scells_getA (by omega)) ?_
    refine JL_callD (Asks.cons (holds_of_mem (by repeat (first | with_reducible exact mm0 | refine mmS ?_))) (Asks.cons (holds_of_mem (by repeat (first | with_reducible exact mm0 | refine mmS ?_))) (Asks.cons (holds_of_mem (by repeat (first | with_reducible exact mm0 | refine mmS ?_))) (Asks.cons (holds_of_mem (by repeat (first | with_reducible exact mm0 | refine mmS ?_))) (Asks.cons (holds_of_mem (by repeat (first | with_reducible exact mm0 | refine mmS ?_))) Asks.nil))))) (hc k (by omega)) rfl hcf ⟨rfl, rfl⟩ ?_
    rintro _ _ ⟨rfl, rfl⟩
    refine JL_done_up 19 [] [_, _, _, _, _, _, _] rfl rfl (by simp only [nrmF]; rfl) rfl rfl ?_
    refine JC_cond rfl (fun hb => ?_) (fun hb => ?_)
    · have h16 := hb
      refine JC_seq ?_
      refine JC_region ?_
      refine JL_move rfl ?_
      refine JL_assign rfl ?_
      refine JL_done_up 19 [] [_, _, _, _, _, _, _] rfl rfl (by simp only [nrmF]; rfl) rfl rfl ?_
      refine JC_ret ?_
      refine JE_block_ret ?_
      refine JE_then_ret ?_
      refine JE_nextS_ret ?_
      refine JE_block_ret ?_
      refine JE_then_ret ?_
      refine JE_ret (vs := [_]) [] Tryd.results60 ⟨rfl, rfl⟩ ?_ ?_
      · exact ⟨_, rfl, rfl, .inr ⟨k, by omega, rfl, h16, hpf⟩⟩
      · exact all_nil
    · have h16 := hb
      refine JC_skip ?_
      refine JE_block_normal ?_
      refine JE_then ?_
      refine JC_region ?_
      refine JL_add_to rfl rfl (IntWalk.i64_in _ (by omega)) ?_
      refine JL_move rfl ?_
      refine JL_nil_up 19 [] [_, _, _, _, _, _, _] rfl rfl (by simp only [nrmF]; rfl) rfl rfl ?_
      refine JE_nextS (k + 1) (by kernel_rfl) ?_ ?_ (by kernel_rfl) ?_
      · exact ⟨by omega, fun j hj => by
        by_cases h : j = k
        · subst h; exact h16
        · exact hpf j (by omega)⟩
      · first | omega | (dsimp only; omega)
      · exact subset_app subset_nil (ssS (ssS (ssS (ssS ss0))))
  · refine JL_done_up 19 [] [_, _, _] rfl rfl (by simp only [nrmF]; rfl) rfl rfl ?_
    refine JC_seq ?_
    refine JC_false rfl ?_
    refine JC_exit ?_
    refine JE_then_exit ?_
    refine JE_nextS_exit ?_
    refine JE_block_exit ?_
    refine JE_then ?_
    refine JC_seq ?_
    refine JC_region ?_
    refine JL_assign rfl ?_
    refine JL_done_up 19 [] [_, _, _] rfl rfl (by simp only [nrmF]; rfl) rfl rfl ?_
    refine JC_ret ?_
    refine JE_ret (vs := [_]) [] Tryd.results60 ⟨rfl, rfl⟩ ?_ ?_
    · exact ⟨_, rfl, rfl, .inl ⟨rfl, fun j hj => hpf j (by omega)⟩⟩
    · exact all_nil

theorem contS_con {ad : Option Addr} {c : Nat} {l : List Se} {f : FuncId} {caps : List Value} {vc : VP} (hcf : callable Tryd.prog f = true) (p : Nat → Bool) (hn : l.length ≤ 9223372036854775807) (hc : ∀ k, k < l.length → ConF Tryd.prog f ([.agg #[.bool (fneg (some (l.getD k dS).lo.q)), .slice (l.getD k dS).lo.ad (fnum (some (l.getD k dS).lo.q)).length (l.getD k dS).lo.c, .slice (l.getD k dS).lo.be (fden (some (l.getD k dS).lo.q)).length (l.getD k dS).lo.e, .bool (fneg (some (l.getD k dS).hi.q)), .slice (l.getD k dS).hi.ad (fnum (some (l.getD k dS).hi.q)).length (l.getD k dS).hi.c, .slice (l.getD k dS).hi.be (fden (some (l.getD k dS).hi.q)).length (l.getD k dS).hi.e]] ++ caps) [vCells (l.getD k dS).lo.ad (u32s (fnum (some (l.getD k dS).lo.q))), vCells (l.getD k dS).lo.be (u32s (fden (some (l.getD k dS).lo.q))), vCells (l.getD k dS).hi.ad (u32s (fnum (some (l.getD k dS).hi.q))), vCells (l.getD k dS).hi.be (u32s (fden (some (l.getD k dS).hi.q))), vc] (fun v φo => v = .bool (p k) ∧ φo = [])) :
    ConF Tryd.prog 38 [.slice ad l.length c, .func (.func f) #[] caps.toArray] [vCells ad (scells l), vSes l, vc]
      (fun v φo => v = .bool ((List.range l.length).any p) ∧ φo = []) := by
  refine ConF_of Tryd.func38 rfl 9 _ rfl rfl ?_
  intro w0
  refine JC_norm ⟨9, [], [_, _, _, _, _, _, _, _, _]⟩ [] [_, _, _] rfl rfl rfl ?_
  refine JC_seq ?_
  refine JC_region ?_
  refine JL_assign rfl ?_
  refine JL_done_up 9 [] [_, _, _] rfl rfl (by simp only [nrmF]; rfl) rfl rfl ?_
  refine JC_seq ?_
  refine JC_region ?_
  refine JL_move rfl ?_
  refine JL_move rfl ?_
  refine JL_callF' (Asks.cons (holds_of_mem (by repeat (first | with_reducible exact mm0 | refine mmS ?_))) (Asks.cons (holds_of_mem (by repeat (first | with_reducible exact mm0 | refine mmS ?_))) (Asks.cons (holds_of_mem (by repeat (first | with_reducible exact mm0 | refine mmS ?_))) Asks.nil))) (idxS_con hcf p hn hc) rfl ca60 ⟨rfl, rfl, rfl⟩ ?_
  rintro _ _ ⟨r7, rfl, rfl, hr7⟩
  refine JL_geq rfl rfl ?_
  rw [any_of_first hr7]
  refine JL_assign rfl ?_
  refine JL_done_up 9 [] [_, _, _] rfl rfl (by simp only [nrmF]; rfl) rfl rfl ?_
  refine JC_ret ?_
  refine JE_ret (vs := [_]) [] Tryd.results38 ⟨rfl, rfl⟩ ?_ ?_
  · exact ⟨rfl, rfl⟩
  · exact all_nil

theorem idxI_con {ad : Option Addr} {c : Nat} {L : List Int} {f : FuncId} {caps : List Value} {vc : VP} (hcf : callable Tryd.prog f = true) (p : Nat → Bool) (hn : L.length ≤ 9223372036854775807) (hc : ∀ k, k < L.length → ConF Tryd.prog f ([.int .i64 (L.getD k 0)] ++ caps) [vc] (fun v φo => v = .bool (p k) ∧ φo = [])) :
    ConF Tryd.prog 87 [.slice ad L.length c, .func (.func f) #[] caps.toArray] [vCells ad (i64s L), vc]
      (fun v φo => ∃ r, v = .int .i64 r ∧ φo = [] ∧ firstI p L.length r) := by
  refine ConF_of Tryd.func87 rfl 19 _ rfl rfl ?_
  intro w0
  refine JC_norm ⟨19, [], [_, _, _, _, _, _, _, _, _, _, _, _, _, _, _, _, _, _, _]⟩ [] [_, _] rfl rfl rfl ?_
  refine JC_seq ?_
  refine JC_region ?_
  refine JL_assign rfl ?_
  refine JL_done_up 19 [] [_, _] rfl rfl (by simp only [nrmF]; rfl) rfl rfl ?_
  refine JC_seq ?_
  refine JC_seq ?_
  refine JC_region ?_
  refine JL_move rfl ?_
  refine JL_len sl54 rfl ?_
  refine JL_move rfl ?_
  refine JL_done_up 19 [] [_, _] rfl rfl (by simp only [nrmF]; rfl) rfl rfl ?_
  refine JC_block ?_
  refine JC_loopS ((Nat)) (fun (k : Nat) => k ≤ L.length ∧ ∀ j, j < k → p j = false) (fun (k : Nat) => L.length - k) (fun u (k : Nat) => [none, none, none, none, some (u 4), some (u 5), none, none, some (.int .i64 (k : Nat)), some (u 9), some (u 10), some (u 11), some (u 12), some (u 13), some (u 14), some (u 15), some (u 16), some (u 17), some (u 18)]) (fun (k : Nat) => []) (fun (k : Nat) => []) (0) (by kernel_rfl) ?_ (by kernel_rfl) ?_ ?_
  · exact ⟨Nat.zero_le _, fun j hj => absurd hj (Nat.not_lt_zero j)⟩
  · exact subset_nil
  intro u k hC
  obtain ⟨hk, hpf⟩ := hC
  refine JC_norm ⟨19, [], [_, _, _, _, _, _, _, _, _, _, _, _, _, _, _, _, _, _, _]⟩ [] [_, _] rfl rfl rfl ?_
  refine JC_seq ?_
  refine JC_region ?_
  refine JL_lss rfl rfl ?_
  refine JL_split (fun h9 => ?_) (fun h9 => ?_)
  · refine JL_done_up 19 [] [_, _] rfl rfl (by simp only [nrmF]; rfl) rfl rfl ?_
    refine JC_seq ?_
    refine JC_true rfl ?_
    refine JC_skip ?_
    refine JE_then ?_
    refine JC_seq ?_
    refine JC_block ?_
    refine JC_seq ?_
    refine JC_region ?_
    refine JL_move rfl ?_
    refine JL_assign rfl ?_
    refine JL_done_up 19 [] [_, _] rfl rfl (by simp only [nrmF]; rfl) rfl rfl ?_
    refine JC_seq ?_
    refine JC_region ?_
    refine JL_move rfl ?_
    refine JL_move rfl ?_
    refine JL_move rfl ?_
    refine JL_idx k sl54 rfl rfl rfl (by omega) (by first | exact Reads.view (by repeat (first | with_reducible exact mm0 | refine mmS ?_))) (by first | (rw [u32s_length]; omega) | (rw [i64s_length]; omega)) ?_
    refine JL_loadE ty3 rfl (by first | exact Reads.view (by repeat (first | with_reducible exact mm0 | refine mmS ?_))) (i64s_get (by omega)) ?_
    refine JL_callD (Asks.cons (holds_of_mem (by repeat (first | with_reducible exact mm0 | refine mmS ?_))) Asks.nil) (hc k (by omega)) rfl hcf ⟨rfl, rfl⟩ ?_
    rintro _ _ ⟨rfl, rfl⟩
    refine JL_done_up 19 [] [_, _] rfl rfl (by simp only [nrmF]; rfl) rfl rfl ?_
    refine JC_cond rfl (fun hb => ?_) (fun hb => ?_)
    · have h16 := hb
      refine JC_seq ?_
      refine JC_region ?_
      refine JL_move rfl ?_
      refine JL_assign rfl ?_
      refine JL_done_up 19 [] [_, _] rfl rfl (by simp only [nrmF]; rfl) rfl rfl ?_
      refine JC_ret ?_
      refine JE_block_ret ?_
      refine JE_then_ret ?_
      refine JE_nextS_ret ?_
      refine JE_block_ret ?_
      refine JE_then_ret ?_
      refine JE_ret (vs := [_]) [] Tryd.results87 ⟨rfl, rfl⟩ ?_ ?_
      · exact ⟨_, rfl, rfl, .inr ⟨k, by omega, rfl, h16, hpf⟩⟩
      · exact all_nil
    · have h16 := hb
      refine JC_skip ?_
      refine JE_block_normal ?_
      refine JE_then ?_
      refine JC_region ?_
      refine JL_add_to rfl rfl (IntWalk.i64_in _ (by omega)) ?_
      refine JL_move rfl ?_
      refine JL_nil_up 19 [] [_, _] rfl rfl (by simp only [nrmF]; rfl) rfl rfl ?_
      refine JE_nextS (k + 1) (by kernel_rfl) ?_ ?_ (by kernel_rfl) ?_
      · exact ⟨by omega, fun j hj => by
        by_cases h : j = k
        · subst h; exact h16
        · exact hpf j (by omega)⟩
      · first | omega | (dsimp only; omega)
      · exact subset_app subset_nil ss0
  · refine JL_done_up 19 [] [_, _] rfl rfl (by simp only [nrmF]; rfl) rfl rfl ?_
    refine JC_seq ?_
    refine JC_false rfl ?_
    refine JC_exit ?_
    refine JE_then_exit ?_
    refine JE_nextS_exit ?_
    refine JE_block_exit ?_
    refine JE_then ?_
    refine JC_seq ?_
    refine JC_region ?_
    refine JL_assign rfl ?_
    refine JL_done_up 19 [] [_, _] rfl rfl (by simp only [nrmF]; rfl) rfl rfl ?_
    refine JC_ret ?_
    refine JE_ret (vs := [_]) [] Tryd.results87 ⟨rfl, rfl⟩ ?_ ?_
    · exact ⟨_, rfl, rfl, .inl ⟨rfl, fun j hj => hpf j (by omega)⟩⟩
    · exact all_nil

theorem contI_con {ad : Option Addr} {c : Nat} {L : List Int} {f : FuncId} {caps : List Value} {vc : VP} (hcf : callable Tryd.prog f = true) (p : Nat → Bool) (hn : L.length ≤ 9223372036854775807) (hc : ∀ k, k < L.length → ConF Tryd.prog f ([.int .i64 (L.getD k 0)] ++ caps) [vc] (fun v φo => v = .bool (p k) ∧ φo = [])) :
    ConF Tryd.prog 68 [.slice ad L.length c, .func (.func f) #[] caps.toArray] [vCells ad (i64s L), vc]
      (fun v φo => v = .bool ((List.range L.length).any p) ∧ φo = []) := by
  refine ConF_of Tryd.func68 rfl 9 _ rfl rfl ?_
  intro w0
  refine JC_norm ⟨9, [], [_, _, _, _, _, _, _, _, _]⟩ [] [_, _] rfl rfl rfl ?_
  refine JC_seq ?_
  refine JC_region ?_
  refine JL_assign rfl ?_
  refine JL_done_up 9 [] [_, _] rfl rfl (by simp only [nrmF]; rfl) rfl rfl ?_
  refine JC_seq ?_
  refine JC_region ?_
  refine JL_move rfl ?_
  refine JL_move rfl ?_
  refine JL_callF' (Asks.cons (holds_of_mem (by repeat (first | with_reducible exact mm0 | refine mmS ?_))) (Asks.cons (holds_of_mem (by repeat (first | with_reducible exact mm0 | refine mmS ?_))) Asks.nil)) (idxI_con hcf p hn hc) rfl ca87 ⟨rfl, rfl, rfl⟩ ?_
  rintro _ _ ⟨r7, rfl, rfl, hr7⟩
  refine JL_geq rfl rfl ?_
  rw [any_of_first hr7]
  refine JL_assign rfl ?_
  refine JL_done_up 9 [] [_, _] rfl rfl (by simp only [nrmF]; rfl) rfl rfl ?_
  refine JC_ret ?_
  refine JE_ret (vs := [_]) [] Tryd.results68 ⟨rfl, rfl⟩ ?_ ?_
  · exact ⟨rfl, rfl⟩
  · exact all_nil

end Go.Fw.K
