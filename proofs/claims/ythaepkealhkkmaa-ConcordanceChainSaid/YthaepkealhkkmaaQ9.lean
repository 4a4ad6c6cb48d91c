/- Walks through functions of the given program: each meets its contract. (Printed by a program of this repo.) -/
import Derived.Test.YthaepkealhkkmaaQ8
import Derived.Test.YthaepkealhkkmaaProg
namespace Go.Fw.Q9
open Go Go.RowKit Go.Proofs Go.Nat9 Go.Fw
attribute [local irreducible] JC JL JE
theorem ca24 : callable Try.prog 24 = true := by kernel_rfl
theorem ca36 : callable Try.prog 36 = true := by kernel_rfl
theorem ca44 : callable Try.prog 44 = true := by kernel_rfl
theorem ca56 : callable Try.prog 56 = true := by kernel_rfl
theorem sl22 : slOf Try.prog 22 = some (51, 2, 16, [.int .i64 0, .int .i64 0]) := by kernel_rfl
theorem sl66 : slOf Try.prog 66 = some (22, 1, 24, [.slice none 0 0]) := by kernel_rfl
theorem ty22 : tyOf Try.prog 22 = some (false, 1) := by kernel_rfl
end Go.Fw.Q9
namespace Go.Fw.K
open Go Go.RowKit Go.Proofs Go.Nat9 Go.Fw Go.Fw.Q9
attribute [local irreducible] JC JL JE

set_option maxHeartbeats 1000000 in
theorem concat_con {adw ad1 ad2 : Option Addr} {cw c1 c2 : Nat} {l m : List Pr} (hl : l.length ≤ 128) (hm : m.length ≤ 128) :
    ConO Try.prog 44 [.slice adw 2 cw] [] [vCells adw [.slice ad1 l.length c1, .slice ad2 m.length c2], vCells ad1 (pcells l), vCells ad2 (pcells m)]
      (fun v rout φo => ∃ (ad : Option Addr) (c : Nat), v = .slice ad (l ++ m).length c ∧ φo = [] ∧ rout = [osl ad (l ++ m).length c 51 2 (pcells (l ++ m))]) := by
  refine ConO_of Try.func44 rfl 36 _ rfl rfl ?_
  intro w0 p0 p1
  refine JC_norm ⟨36, [], [_, _, _, _, _, _, _, _, _, _, _, _, _, _, _, _, _, _, _, _, _, _, _, _, _, _, _, _, _, _, _, _, _, _, _, _]⟩ [] [_, _, _, _, _] rfl rfl rfl ?_
  refine JC_seq ?_
  refine JC_region ?_
  refine JL_assign rfl ?_
  refine JL_done_up 36 [] [_, _, _, _, _] rfl rfl (by simp only [nrmF]; rfl) rfl rfl ?_
  refine JC_seq ?_
  refine JC_region ?_
  refine JL_assign rfl ?_
  refine JL_done_up 36 [] [_, _, _, _, _] rfl rfl (by simp only [nrmF]; rfl) rfl rfl ?_
  refine JC_seq ?_
  refine JC_seq ?_
  refine JC_region ?_
  refine JL_move rfl ?_
  refine JL_len sl66 rfl ?_
  refine JL_move rfl ?_
  refine JL_done_up 36 [] [_, _, _, _, _] rfl rfl (by simp only [nrmF]; rfl) rfl rfl ?_
  refine JC_block ?_
  refine JC_loopS ((Nat) × (Nat)) (fun (k, s) => (k = 0 ∧ s = 0) ∨ (k = 1 ∧ s = l.length) ∨ (k = 2 ∧ s = l.length + m.length)) (fun (k, s) => 2 - k) (fun u (k, s) => [none, none, none, some (.int .i64 (s : Nat)), none, some (u 5), none, none, none, none, none, some (.int .i64 (k : Nat)), some (u 12), some (u 13), some (u 14), some (u 15), some (u 16), some (u 17), some (u 18), some (u 19), some (u 20), some (u 21), some (u 22), none, none, none, none, none, none, none, none, none, none, none, none, none]) (fun (k, s) => []) (fun (k, s) => []) (0, 0) (by kernel_rfl) ?_ (by kernel_rfl) ?_ ?_
  · exact .inl ⟨rfl, rfl⟩
  · exact subset_nil
  intro u i hS
  obtain ⟨k, s⟩ := i
  refine JC_norm ⟨36, [], [_, _, _, _, _, _, _, _, _, _, _, _, _, _, _, _, _, _, _, _, _, _, _, _, _, _, _, _, _, _, _, _, _, _, _, _]⟩ [] [_, _, _, _, _] rfl rfl rfl ?_
  refine JC_seq ?_
  refine JC_region ?_
  refine JL_lss rfl rfl ?_
  refine JL_split (fun h12 => ?_) (fun h12 => ?_)
  · refine JL_done_up 36 [] [_, _, _, _, _] rfl rfl (by simp only [nrmF]; rfl) rfl rfl ?_
    refine JC_seq ?_
    refine JC_true rfl ?_
    refine JC_skip ?_
    refine JE_then ?_
    refine JC_seq ?_
    refine JC_block ?_
    refine JC_seq ?_
    rcases (show k = 0 ∨ k = 1 by omega) with rfl | rfl
    · refine JC_region ?_
      refine JL_idx 0 sl66 rfl rfl rfl (by omega) (by first | exact Reads.view (by repeat (first | with_reducible exact mm0 | refine mmS ?_))) (by simp only [List.length_cons, List.length_nil]; omega) ?_
      refine JL_loadE ty22 rfl (by first | exact Reads.view (by repeat (first | with_reducible exact mm0 | refine mmS ?_))) rfl ?_
      refine JL_assign rfl ?_
      refine JL_done_up 36 [] [_, _, _, _, _] rfl rfl (by simp only [nrmF]; rfl) rfl rfl ?_
      refine JC_seq ?_
      refine JC_region ?_
      refine JL_move rfl ?_
      refine JL_move rfl ?_
      refine JL_len sl22 rfl ?_
      refine JL_add_to rfl rfl (IntWalk.i64_in _ (by omega)) ?_
      refine JL_assign rfl ?_
      refine JL_done_up 36 [] [_, _, _, _, _] rfl rfl (by simp only [nrmF]; rfl) rfl rfl ?_
      refine JC_seq ?_
      refine JC_region ?_
      refine JL_move rfl ?_
      refine JL_lss rfl rfl ?_
      refine JL_split (fun h20 => ?_) (fun h20 => ?_)
      · exact absurd h20 (by omega)
      · refine JL_done_up 36 [] [_, _, _, _, _] rfl rfl (by simp only [nrmF]; rfl) rfl rfl ?_
        refine JC_false rfl ?_
        refine JC_skip ?_
        refine JE_block_normal ?_
        refine JE_then ?_
        refine JC_region ?_
        refine JL_add_to rfl rfl (IntWalk.i64_in _ (by omega)) ?_
        refine JL_move rfl ?_
        refine JL_nil_up 36 [] [_, _, _, _, _] rfl rfl (by simp only [nrmF]; rfl) rfl rfl ?_
        refine JE_nextS (0 + 1, s + l.length) (by kernel_rfl) ?_ ?_ (by kernel_rfl) ?_
        · exact .inr (.inl ⟨rfl, by omega⟩)
        · first | omega | (dsimp only; omega)
        · exact subset_app subset_nil ss0
    · refine JC_region ?_
      refine JL_idx 1 sl66 rfl rfl rfl (by omega) (by first | exact Reads.view (by repeat (first | with_reducible exact mm0 | refine mmS ?_))) (by simp only [List.length_cons, List.length_nil]; omega) ?_
      refine JL_loadE ty22 rfl (by first | exact Reads.view (by repeat (first | with_reducible exact mm0 | refine mmS ?_))) rfl ?_
      refine JL_assign rfl ?_
      refine JL_done_up 36 [] [_, _, _, _, _] rfl rfl (by simp only [nrmF]; rfl) rfl rfl ?_
      refine JC_seq ?_
      refine JC_region ?_
      refine JL_move rfl ?_
      refine JL_move rfl ?_
      refine JL_len sl22 rfl ?_
      refine JL_add_to rfl rfl (IntWalk.i64_in _ (by omega)) ?_
      refine JL_assign rfl ?_
      refine JL_done_up 36 [] [_, _, _, _, _] rfl rfl (by simp only [nrmF]; rfl) rfl rfl ?_
      refine JC_seq ?_
      refine JC_region ?_
      refine JL_move rfl ?_
      refine JL_lss rfl rfl ?_
      refine JL_split (fun h20 => ?_) (fun h20 => ?_)
      · exact absurd h20 (by omega)
      · refine JL_done_up 36 [] [_, _, _, _, _] rfl rfl (by simp only [nrmF]; rfl) rfl rfl ?_
        refine JC_false rfl ?_
        refine JC_skip ?_
        refine JE_block_normal ?_
        refine JE_then ?_
        refine JC_region ?_
        refine JL_add_to rfl rfl (IntWalk.i64_in _ (by omega)) ?_
        refine JL_move rfl ?_
        refine JL_nil_up 36 [] [_, _, _, _, _] rfl rfl (by simp only [nrmF]; rfl) rfl rfl ?_
        refine JE_nextS (1 + 1, s + m.length) (by kernel_rfl) ?_ ?_ (by kernel_rfl) ?_
        · exact .inr (.inr ⟨rfl, by omega⟩)
        · first | omega | (dsimp only; omega)
        · exact subset_app subset_nil ss0
  · refine JL_done_up 36 [] [_, _, _, _, _] rfl rfl (by simp only [nrmF]; rfl) rfl rfl ?_
    refine JC_seq ?_
    refine JC_false rfl ?_
    refine JC_exit ?_
    refine JE_then_exit ?_
    refine JE_nextS_exit ?_
    refine JE_block_exit ?_
    refine JE_then ?_
    refine JC_seq ?_
    have hsE : s = l.length + m.length := by omega
    refine JC_region ?_
    refine JL_move rfl ?_
    refine JL_callO AsksO.nil (grow_con (n := s) (by omega)) rfl ca56 ⟨rfl, rfl, rfl⟩ ?_
    rintro _ _ _ ⟨ad24, c24, rfl, rfl, rfl⟩
    refine JL_assign rfl ?_
    refine JL_done_up 36 [osl _ _ _ _ _ _] [_, _, _, _, _] rfl rfl (by simp only [nrmF]; rfl) rfl rfl ?_
    refine JC_seq ?_
    refine JC_seq ?_
    refine JC_region ?_
    refine JL_move rfl ?_
    refine JL_len sl66 rfl ?_
    refine JL_move rfl ?_
    refine JL_done_up 36 [osl _ _ _ _ _ _] [_, _, _, _, _] rfl rfl (by simp only [nrmF]; rfl) rfl rfl ?_
    refine JC_block ?_
    refine JC_loopS ((Nat) × (List Pr) × (Option Addr) × (Nat) × (Nat)) (fun (k, r, ad3, cap3, n3) => ((k = 0 ∧ r = []) ∨ (k = 1 ∧ r = l) ∨ (k = 2 ∧ r = l ++ m)) ∧ r.length = n3) (fun (k, r, ad3, cap3, n3) => 2 - k) (fun u (k, r, ad3, cap3, n3) => [none, none, none, none, none, none, some (.slice ad3 n3 cap3), none, some (u 8), none, none, none, none, none, none, none, none, none, none, none, none, none, none, none, none, none, none, some (.int .i64 (k : Nat)), some (u 28), some (u 29), some (u 30), some (u 31), some (u 32), some (u 33), some (u 34), none]) (fun (k, r, ad3, cap3, n3) => [some (osl ad3 n3 cap3 51 2 (pcells r))]) (fun (k, r, ad3, cap3, n3) => []) (0, [], ad24, c24, 0) (by kernel_rfl) ?_ (by kernel_rfl) ?_ ?_
    · exact ⟨.inl ⟨rfl, rfl⟩, rfl⟩
    · exact subset_nil
    intro u i hC
    obtain ⟨k, r, ad3, cap3, n3⟩ := i
    obtain ⟨hA, hn3⟩ := hC
    refine JC_norm ⟨36, [], [_, _, _, _, _, _, _, _, _, _, _, _, _, _, _, _, _, _, _, _, _, _, _, _, _, _, _, _, _, _, _, _, _, _, _, _]⟩ [osl _ _ _ _ _ _] [_, _, _, _, _] rfl rfl rfl ?_
    have hr3 : r.length ≤ 256 := by rcases hA with ⟨_, rfl⟩ | ⟨_, rfl⟩ | ⟨_, rfl⟩ <;> (try simp only [List.length_append, List.length_nil]) <;> omega
    refine JC_seq ?_
    refine JC_region ?_
    refine JL_lss rfl rfl ?_
    refine JL_split (fun h28 => ?_) (fun h28 => ?_)
    · refine JL_done_up 36 [osl _ _ _ _ _ _] [_, _, _, _, _] rfl rfl (by simp only [nrmF]; rfl) rfl rfl ?_
      refine JC_seq ?_
      refine JC_true rfl ?_
      refine JC_skip ?_
      refine JE_then ?_
      refine JC_seq ?_
      refine JC_block ?_
      refine JC_seq ?_
      rcases (show k = 0 ∨ k = 1 by omega) with rfl | rfl
      · refine JC_region ?_
        refine JL_idx 0 sl66 rfl rfl rfl (by omega) (by first | exact Reads.view (by repeat (first | with_reducible exact mm0 | refine mmS ?_)) | (exact Reads.own 0 rfl)) (by simp only [List.length_cons, List.length_nil]; omega) ?_
        refine JL_loadE ty22 rfl (by first | exact Reads.view (by repeat (first | with_reducible exact mm0 | refine mmS ?_)) | (exact Reads.own 0 rfl)) rfl ?_
        refine JL_assign rfl ?_
        refine JL_done_up 36 [osl _ _ _ _ _ _] [_, _, _, _, _] rfl rfl (by simp only [nrmF]; rfl) rfl rfl ?_
        refine JC_region ?_
        refine JL_move rfl ?_
        refine JL_move rfl ?_
        refine JL_append (news := pcells l) 0 sl22 rfl (by decide) rfl rfl rfl (by rw [pcells_length]) (Reads.view (by repeat (first | with_reducible exact mm0 | refine mmS ?_))) (allOne_pcells _) (by omega) (by omega) (fun ad33 cap33 hc33 => ?_)
        refine JL_norm _ [osl _ _ _ _ _ _] [_, _, _, _, _] rfl rfl rfl ?_
        rw [show pcells r ++ pcells l = pcells (r ++ l) from (pcells_app _ _).symm]
        refine JL_assign rfl ?_
        refine JL_nil_up 36 [osl _ _ _ _ _ _] [_, _, _, _, _] rfl rfl (by simp only [nrmF]; rfl) rfl rfl ?_
        refine JE_block_normal ?_
        refine JE_then ?_
        refine JC_region ?_
        refine JL_add_to rfl rfl (IntWalk.i64_in _ (by omega)) ?_
        refine JL_move rfl ?_
        refine JL_nil_up 36 [osl _ _ _ _ _ _] [_, _, _, _, _] rfl rfl (by simp only [nrmF]; rfl) rfl rfl ?_
        refine JE_nextS (0 + 1, r ++ l, ad33, cap33, n3 + l.length) (by kernel_rfl) ?_ ?_ (by kernel_rfl) ?_
        · exact ⟨.inr (.inl ⟨rfl, by rcases hA with ⟨_, h⟩ | ⟨h, _⟩ | ⟨h, _⟩; rw [h]; rfl; omega; omega⟩), by rw [List.length_append, hn3]⟩
        · first | omega | (dsimp only; omega)
        · exact subset_app subset_nil ss0
      · refine JC_region ?_
        refine JL_idx 1 sl66 rfl rfl rfl (by omega) (by first | exact Reads.view (by repeat (first | with_reducible exact mm0 | refine mmS ?_)) | (exact Reads.own 0 rfl)) (by simp only [List.length_cons, List.length_nil]; omega) ?_
        refine JL_loadE ty22 rfl (by first | exact Reads.view (by repeat (first | with_reducible exact mm0 | refine mmS ?_)) | (exact Reads.own 0 rfl)) rfl ?_
        refine JL_assign rfl ?_
        refine JL_done_up 36 [osl _ _ _ _ _ _] [_, _, _, _, _] rfl rfl (by simp only [nrmF]; rfl) rfl rfl ?_
        refine JC_region ?_
        refine JL_move rfl ?_
        refine JL_move rfl ?_
        refine JL_append (news := pcells m) 0 sl22 rfl (by decide) rfl rfl rfl (by rw [pcells_length]) (Reads.view (by repeat (first | with_reducible exact mm0 | refine mmS ?_))) (allOne_pcells _) (by omega) (by omega) (fun ad33 cap33 hc33 => ?_)
        refine JL_norm _ [osl _ _ _ _ _ _] [_, _, _, _, _] rfl rfl rfl ?_
        rw [show pcells r ++ pcells m = pcells (r ++ m) from (pcells_app _ _).symm]
        refine JL_assign rfl ?_
        refine JL_nil_up 36 [osl _ _ _ _ _ _] [_, _, _, _, _] rfl rfl (by simp only [nrmF]; rfl) rfl rfl ?_
        refine JE_block_normal ?_
        refine JE_then ?_
        refine JC_region ?_
        refine JL_add_to rfl rfl (IntWalk.i64_in _ (by omega)) ?_
        refine JL_move rfl ?_
        refine JL_nil_up 36 [osl _ _ _ _ _ _] [_, _, _, _, _] rfl rfl (by simp only [nrmF]; rfl) rfl rfl ?_
        refine JE_nextS (1 + 1, r ++ m, ad33, cap33, n3 + m.length) (by kernel_rfl) ?_ ?_ (by kernel_rfl) ?_
        · exact ⟨.inr (.inr ⟨rfl, by rcases hA with ⟨h, _⟩ | ⟨_, h⟩ | ⟨h, _⟩; omega; rw [h]; omega⟩), by rw [List.length_append, hn3]⟩
        · first | omega | (dsimp only; omega)
        · exact subset_app subset_nil ss0
    · refine JL_done_up 36 [osl _ _ _ _ _ _] [_, _, _, _, _] rfl rfl (by simp only [nrmF]; rfl) rfl rfl ?_
      refine JC_seq ?_
      refine JC_false rfl ?_
      refine JC_exit ?_
      refine JE_then_exit ?_
      refine JE_nextS_exit ?_
      refine JE_block_exit ?_
      refine JE_then ?_
      refine JC_seq ?_
      refine JC_region ?_
      refine JL_move rfl ?_
      refine JL_assign rfl ?_
      refine JL_done_up 36 [osl _ _ _ _ _ _] [_, _, _, _, _] rfl rfl (by simp only [nrmF]; rfl) rfl rfl ?_
      refine JC_ret ?_
      have hrE : r = l ++ m := by rcases hA with ⟨h, _⟩ | ⟨h, _⟩ | ⟨_, h⟩; omega; omega; exact h
      subst hrE
      subst hn3
      refine JE_retO (vs := [_]) [] Try.results44 ⟨rfl, rfl⟩ ?_ ?_ (by repeat (first | with_reducible exact mm0 | refine mmS ?_)) (by repeat (first | with_reducible exact mm0 | refine mmS ?_))
      · exact ⟨ad3, cap3, rfl, rfl, rfl⟩
      · exact all_nil

set_option maxHeartbeats 1000000 in
theorem union_con {ad1 ad2 : Option Addr} {c1 c2 : Nat} {l m : List Pr} (hln : l.length ≤ 1000000) (hmn : m.length ≤ 1000000) :
    ConA Try.prog 28 [.slice ad1 l.length c1, .slice ad2 m.length c2] [vCells ad1 (pcells l), vCells ad2 (pcells m)]
      (SPP (bothR l m (l ++ m)) (bothE l m (l ++ m))) := by
  refine ConA_of Try.func28 rfl 21 _ rfl rfl ?_
  intro w0
  refine JC_norm ⟨21, [], [_, _, _, _, _, _, _, _, _, _, _, _, _, _, _, _, _, _, _, _, _]⟩ [] [_, _] rfl rfl rfl ?_
  refine JC_seq ?_
  refine JC_region ?_
  refine JL_assign rfl ?_
  refine JL_assign rfl ?_
  refine JL_done_up 21 [] [_, _] rfl rfl (by simp only [nrmF]; rfl) rfl rfl ?_
  refine JC_seq ?_
  refine JC_seq ?_
  refine JC_region ?_
  refine JL_move rfl ?_
  refine JL_callF' (Asks.cons (holds_of_mem (by repeat (first | with_reducible exact mm0 | refine mmS ?_))) Asks.nil) (valid_con (by omega)) rfl ca24 ⟨rfl, rfl⟩ ?_
  rintro _ _ ⟨rfl, rfl⟩
  refine JL_split (fun h7 => ?_) (fun h7 => ?_)
  · refine JL_not rfl ?_
    rw [Bool.not_true]
    refine JL_move rfl ?_
    refine JL_guard_yes rfl rfl ?_
    refine JL_move rfl ?_
    refine JL_guard_yes rfl rfl ?_
    refine JL_callF' (Asks.cons (holds_of_mem (by repeat (first | with_reducible exact mm0 | refine mmS ?_))) Asks.nil) (valid_con (by omega)) rfl ca24 ⟨rfl, rfl⟩ ?_
    rintro _ _ ⟨rfl, rfl⟩
    refine JL_split (fun h11 => ?_) (fun h11 => ?_)
    · refine JL_guard_yes rfl rfl ?_
      refine JL_not rfl ?_
      rw [Bool.not_true]
      refine JL_pick_f rfl rfl ?_
      refine JL_done_up 21 [] [_, _] rfl rfl (by simp only [nrmF]; rfl) rfl rfl ?_
      refine JC_false rfl ?_
      refine JC_skip ?_
      refine JE_then ?_
      refine JC_seq ?_
      refine JC_region ?_
      refine JL_move rfl ?_
      refine JL_move rfl ?_
      refine JL_buildN (cs0 := [.slice none 0 0, .slice none 0 0]) (cs := [_, _]) [(0, [_]), (1, [_])] sl66 (by kernel_rfl) ⟨⟨rfl, _, rfl, rfl⟩, ⟨rfl, _, rfl, rfl⟩, rfl⟩ rfl rfl rfl rfl (fun g16 => ?_)
      refine JL_give 0 rfl ?_
      refine JL_norm _ [] [_, _, _] rfl rfl rfl ?_
      refine JL_callO (AsksO.cons (show (true, vCells (some ⟨g16, 0, none⟩) [.slice ad1 l.length c1, .slice ad2 m.length c2]) ∈ _ from (by repeat (first | exact mm0 | refine mmS ?_))) (AsksO.cons (by repeat (first | with_reducible exact mm0 | refine mmS ?_)) (AsksO.cons (by repeat (first | with_reducible exact mm0 | refine mmS ?_)) AsksO.nil))) (concat_con (l := l) (m := m) h7.2 h11.2) rfl ca44 ⟨rfl, rfl⟩ ?_
      rintro _ _ _ ⟨ad17, c17, rfl, rfl, rfl⟩
      refine JL_callO AsksO.nil (sorted_con (l := l ++ m) (by rw [List.length_append]; have := h7.2; have := h11.2; omega)) rfl ca36 ⟨rfl, rfl⟩ ?_
      rintro _ _ _ ⟨ad18, c18, rfl, hc18, rfl, rfl⟩
      refine JL_extract rfl rfl ?_
      refine JL_extract rfl rfl ?_
      refine JL_assign rfl ?_
      refine JL_assign rfl ?_
      refine JL_done_up 21 [] [_, _, _, _] rfl rfl (by simp only [nrmF]; rfl) rfl rfl ?_
      refine JC_ret ?_
      refine JE_ret (vs := [_, _]) [vCells ad18 (pcells (sortR (l ++ m)))] Try.results28 ⟨rfl, rfl, rfl⟩ ?_ ?_
      · rw [(both_ok (R := l ++ m) ⟨h7, h11⟩).1, (both_ok (R := l ++ m) ⟨h7, h11⟩).2]; exact ⟨ad18, c18, rfl, hc18, rfl⟩
      · exact (all_cons (by repeat (first | with_reducible exact mm0 | refine mmS ?_)) all_nil)
    · refine JL_guard_yes rfl rfl ?_
      refine JL_not rfl ?_
      rw [Bool.not_false]
      refine JL_pick_f rfl rfl ?_
      refine JL_done_up 21 [] [_, _] rfl rfl (by simp only [nrmF]; rfl) rfl rfl ?_
      refine JC_true rfl ?_
      refine JC_seq ?_
      refine JC_region ?_
      refine JL_assign rfl ?_
      refine JL_assign rfl ?_
      refine JL_done_up 21 [] [_, _] rfl rfl (by simp only [nrmF]; rfl) rfl rfl ?_
      refine JC_ret ?_
      refine JE_then_ret ?_
      refine JE_addView (f := true) (p := vCells none (pcells [])) (fun _ _ => nilP) ?_
      refine JE_ret (vs := [_, _]) [vCells none (pcells [])] Try.results28 ⟨rfl, rfl, rfl⟩ ?_ ?_
      · rw [(both_no (R := l ++ m) (fun e => h11 e.2)).1, (both_no (R := l ++ m) (fun e => h11 e.2)).2]; exact ⟨none, 0, rfl, caps0, rfl⟩
      · exact (all_cons (by repeat (first | with_reducible exact mm0 | refine mmS ?_)) all_nil)
  · refine JL_not rfl ?_
    rw [Bool.not_false]
    refine JL_move rfl ?_
    refine JL_guard_no rfl rfl ?_
    refine JL_guard_no rfl rfl ?_
    refine JL_guard_no rfl rfl ?_
    refine JL_pick_t rfl rfl ?_
    refine JL_done_up 21 [] [_, _] rfl rfl (by simp only [nrmF]; rfl) rfl rfl ?_
    refine JC_true rfl ?_
    refine JC_seq ?_
    refine JC_region ?_
    refine JL_assign rfl ?_
    refine JL_assign rfl ?_
    refine JL_done_up 21 [] [_, _] rfl rfl (by simp only [nrmF]; rfl) rfl rfl ?_
    refine JC_ret ?_
    refine JE_then_ret ?_
    refine JE_addView (f := true) (p := vCells none (pcells [])) (fun _ _ => nilP) ?_
    refine JE_ret (vs := [_, _]) [vCells none (pcells [])] Try.results28 ⟨rfl, rfl, rfl⟩ ?_ ?_
    · rw [(both_no (R := l ++ m) (fun e => h7 e.1)).1, (both_no (R := l ++ m) (fun e => h7 e.1)).2]; exact ⟨none, 0, rfl, caps0, rfl⟩
    · exact (all_cons (by repeat (first | with_reducible exact mm0 | refine mmS ?_)) all_nil)

end Go.Fw.K
