/- Walks through functions of the given program: each meets its contract. (Printed by a program of this repo.) -/
import Derived.Test.YtgnljjdcbfijnaaDoorS17
import Derived.Test.YtgnljjdcbfijnaaDoorFwR
import Derived.Test.YtgnljjdcbfijnaaDoorProg
namespace Go.Fw.S18
open Go Go.RowKit Go.Proofs Go.Nat9 Go.Fw
attribute [local irreducible] JC JL JE
theorem ca23 : callable Tryd.prog 23 = true := by kernel_rfl
theorem fo41_0 : fOf Tryd.prog 41 0 = some 0 := by kernel_rfl
theorem fo41_1 : fOf Tryd.prog 41 1 = some 3 := by kernel_rfl
theorem mixed : Tryd.prog.follows .mixedOrders = true := by kernel_rfl
theorem sl25 : slOf Tryd.prog 25 = some (41, 6, 112, [.bool false, .slice none 0 0, .slice none 0 0, .bool false, .slice none 0 0, .slice none 0 0]) := by kernel_rfl
theorem st41 : stOf Tryd.prog 41 = some ([(0, 3), (3, 3)], [.bool false, .slice none 0 0, .slice none 0 0, .bool false, .slice none 0 0, .slice none 0 0]) := by kernel_rfl
theorem ty35 : tyOf Tryd.prog 35 = some (true, 3) := by kernel_rfl
theorem ty41 : tyOf Tryd.prog 41 = some (true, 6) := by kernel_rfl
theorem z35 : zeroOf Tryd.prog 35 = some [.bool false, .slice none 0 0, .slice none 0 0] := by kernel_rfl
theorem z41 : zeroOf Tryd.prog 41 = some [.bool false, .slice none 0 0, .slice none 0 0, .bool false, .slice none 0 0, .slice none 0 0] := by kernel_rfl
end Go.Fw.S18
namespace Go.Fw.K
open Go Go.RowKit Go.Proofs Go.Nat9 Go.Fw Go.Fw.S18
attribute [local irreducible] JC JL JE

set_option maxHeartbeats 2000000 in
theorem smeet_con {ad1 ad2 : Option Addr} {c1 c2 : Nat} {l m : List Se} (hbl : ∀ j, qs (l.getD j dS).lo.q 3 ∧ qs (l.getD j dS).hi.q 3) (hbm : ∀ j, qs (m.getD j dS).lo.q 3 ∧ qs (m.getD j dS).hi.q 3) (hnl : l.length ≤ 2000) (hnm : m.length ≤ 2000) :
    ConA Tryd.prog 50 [.slice ad1 l.length c1, .slice ad2 m.length c2] [vCells ad1 (scells l), vSes l, vCells ad2 (scells m), vSes m]
      (fun v φo => ∃ (ad : Option Addr) (c : Nat) (r : List Se), v = .slice ad r.length c ∧ r.map Se.qq = meetL (l.map Se.qq) (m.map Se.qq) l.length ∧ φo = [vCells ad (scells r), vSes r]) := by
  refine ConA_of Tryd.func50 rfl 55 _ rfl rfl ?_
  intro w0
  refine JC_norm ⟨55, [], [_, _, _, _, _, _, _, _, _, _, _, _, _, _, _, _, _, _, _, _, _, _, _, _, _, _, _, _, _, _, _, _, _, _, _, _, _, _, _, _, _, _, _, _, _, _, _, _, _, _, _, _, _, _, _]⟩ [] [_, _, _, _] rfl rfl rfl ?_
  refine JC_seq ?_
  refine JC_region ?_
  refine JL_assign rfl ?_
  refine JL_done_up 55 [] [_, _, _, _] rfl rfl (by simp only [nrmF]; rfl) rfl rfl ?_
  refine JC_seq ?_
  refine JC_region ?_
  refine JL_assign rfl ?_
  refine JL_done_up 55 [] [_, _, _, _] rfl rfl (by simp only [nrmF]; rfl) rfl rfl ?_
  refine JC_seq ?_
  refine JC_seq ?_
  refine JC_region ?_
  refine JL_move rfl ?_
  refine JL_len sl25 rfl ?_
  refine JL_move rfl ?_
  refine JL_done_up 55 [] [_, _, _, _] rfl rfl (by simp only [nrmF]; rfl) rfl rfl ?_
  refine JC_block ?_
  refine JC_sesNil ?_
  refine JC_addNil 41 6 ?_
  refine JC_norm ⟨55, [], [_, _, _, _, _, _, _, _, _, _, _, _, _, _, _, _, _, _, _, _, _, _, _, _, _, _, _, _, _, _, _, _, _, _, _, _, _, _, _, _, _, _, _, _, _, _, _, _, _, _, _, _, _, _, _]⟩ [osl _ _ _ _ _ _] [_, _, _, _, _] rfl rfl rfl ?_
  refine JC_loopS ((Nat) × (List Se) × (Option Addr) × (Nat) × (Nat)) (fun (i, r, ad, cap, n) => i ≤ l.length ∧ r.map Se.qq = meetL (l.map Se.qq) (m.map Se.qq) i ∧ r.length = n) (fun (i, r, ad, cap, n) => l.length - i) (fun u (i, r, ad, cap, n) => [none, none, none, none, none, some (.slice ad n cap), none, some (u 7), none, some (u 9), some (u 10), some (u 11), none, none, some (.int .i64 (i : Nat)), some (u 15), some (u 16), some (u 17), some (u 18), some (u 19), some (u 20), some (u 21), some (u 22), some (u 23), some (u 24), some (u 25), some (u 26), some (u 27), some (u 28), some (u 29), some (u 30), some (u 31), some (u 32), some (u 33), some (u 34), some (u 35), some (u 36), some (u 37), some (u 38), some (u 39), some (u 40), some (u 41), some (u 42), some (u 43), some (u 44), some (u 45), some (u 46), some (u 47), some (u 48), some (u 49), some (u 50), some (u 51), some (u 52), some (u 53), none]) (fun (i, r, ad, cap, n) => [some (osl ad n cap 41 6 (scells r))]) (fun (i, r, ad, cap, n) => [(true, vSes r)]) (0, [], none, 0, 0) (by kernel_rfl) ?_ (by kernel_rfl) ?_ ?_
  · exact ⟨Nat.zero_le _, rfl, rfl⟩
  · exact (subset_cons (by repeat (first | with_reducible exact mm0 | refine mmS ?_)) subset_nil)
  intro u i hC
  obtain ⟨i, r, ad, cap, n⟩ := i
  obtain ⟨hi, hr, hn⟩ := hC
  refine JC_norm ⟨55, [], [_, _, _, _, _, _, _, _, _, _, _, _, _, _, _, _, _, _, _, _, _, _, _, _, _, _, _, _, _, _, _, _, _, _, _, _, _, _, _, _, _, _, _, _, _, _, _, _, _, _, _, _, _, _, _]⟩ [osl _ _ _ _ _ _] [_, _, _, _, _, _] rfl rfl rfl ?_
  refine JC_seq ?_
  refine JC_region ?_
  refine JL_lss rfl rfl ?_
  refine JL_split (fun h15 => ?_) (fun h15 => ?_)
  · refine JL_done_up 55 [osl _ _ _ _ _ _] [_, _, _, _, _, _] rfl rfl (by simp only [nrmF]; rfl) rfl rfl ?_
    refine JC_seq ?_
    refine JC_true rfl ?_
    refine JC_skip ?_
    refine JE_then ?_
    refine JC_seq ?_
    refine JC_block ?_
    refine JC_seq ?_
    refine JC_sesGet (f := true) (l := l) (l.getD i dS) (by repeat (first | with_reducible exact mm0 | refine mmS ?_)) (se_mem (by omega)) ?_
    have hbi := hbl i
    refine JC_region ?_
    refine JL_indexAddr i sl25 rfl rfl rfl (by omega) (by first | exact Reads.view (by repeat (first | with_reducible exact mm0 | refine mmS ?_)) | (exact Reads.own 0 rfl)) (by rw [scells_length]; omega) ?_
    refine JL_loadEA (vs := [_, _, _, _, _, _]) ty41 (Nat.zero_lt_succ _) rfl (by first | exact Reads.view (by repeat (first | with_reducible exact mm0 | refine mmS ?_)) | (exact Reads.own 0 rfl)) (scells_getA (by omega)) ?_
    refine JL_alloc z41 (fun b7 => ?_)
    refine JL_store (vs := [_, _, _, _, _, _]) 1 ty41 rfl rfl rfl (AllOne.cons rfl (AllOne.cons rfl (AllOne.cons rfl (AllOne.cons rfl (AllOne.cons rfl (AllOne.cons rfl AllOne.nil)))))) rfl (Nat.le_of_ble_eq_true rfl) ?_
    refine JL_done_up 55 [osl _ _ _ _ _ _, box _ _ [_, _, _, _, _, _]] [_, _, _, _, _, _, _, _, _, _] rfl rfl (by simp only [nrmF]; rfl) rfl rfl ?_
    refine JC_seq ?_
    refine JC_region ?_
    refine JL_move rfl ?_
    refine JL_len sl25 rfl ?_
    refine JL_move rfl ?_
    refine JL_done_up 55 [osl _ _ _ _ _ _, box _ _ [_, _, _, _, _, _]] [_, _, _, _, _, _, _, _, _, _] rfl rfl (by simp only [nrmF]; rfl) rfl rfl ?_
    refine JC_block ?_
    refine JC_loopS ((Nat) × (List Se) × (Option Addr) × (Nat) × (Nat)) (fun (j, r2, ad2_, cap2, n2) => j ≤ m.length ∧ r2.map Se.qq = meetI (meetL (l.map Se.qq) (m.map Se.qq) i) ((l.map Se.qq).getD i (0, 0)) (m.map Se.qq) j ∧ r2.length = n2) (fun (j, r2, ad2_, cap2, n2) => m.length - j) (fun u (j, r2, ad2_, cap2, n2) => [none, none, none, none, none, some (.slice ad2_ n2 cap2), none, none, none, some (u 9), some (u 10), some (u 11), none, none, none, none, none, none, none, none, some (.int .i64 (j : Nat)), some (u 21), some (u 22), some (u 23), some (u 24), some (u 25), some (u 26), some (u 27), some (u 28), some (u 29), some (u 30), some (u 31), some (u 32), some (u 33), some (u 34), some (u 35), some (u 36), some (u 37), some (u 38), some (u 39), some (u 40), some (u 41), some (u 42), some (u 43), some (u 44), some (u 45), some (u 46), some (u 47), some (u 48), some (u 49), some (u 50), some (u 51), some (u 52), none, none]) (fun (j, r2, ad2_, cap2, n2) => [some (osl ad2_ n2 cap2 41 6 (scells r2)), none]) (fun (j, r2, ad2_, cap2, n2) => [(true, vSes r2)]) (0, r, ad, cap, n) (by kernel_rfl) ?_ (by kernel_rfl) ?_ ?_
    · exact ⟨Nat.zero_le _, hr, hn⟩
    · exact (subset_cons (by repeat (first | with_reducible exact mm0 | refine mmS ?_)) subset_nil)
    intro u i hC
    obtain ⟨j, r2, ad2_, cap2, n2⟩ := i
    obtain ⟨hj, hr2, hn2⟩ := hC
    refine JC_norm ⟨55, [], [_, _, _, _, _, _, _, _, _, _, _, _, _, _, _, _, _, _, _, _, _, _, _, _, _, _, _, _, _, _, _, _, _, _, _, _, _, _, _, _, _, _, _, _, _, _, _, _, _, _, _, _, _, _, _]⟩ [osl _ _ _ _ _ _, box _ _ [_, _, _, _, _, _]] [_, _, _, _, _, _, _, _, _, _, _] rfl rfl rfl ?_
    refine JC_seq ?_
    refine JC_region ?_
    refine JL_lss rfl rfl ?_
    refine JL_split (fun h21 => ?_) (fun h21 => ?_)
    · refine JL_done_up 55 [osl _ _ _ _ _ _, box _ _ [_, _, _, _, _, _]] [_, _, _, _, _, _, _, _, _, _, _] rfl rfl (by simp only [nrmF]; rfl) rfl rfl ?_
      refine JC_seq ?_
      refine JC_true rfl ?_
      refine JC_skip ?_
      refine JE_then ?_
      refine JC_seq ?_
      refine JC_block ?_
      refine JC_seq ?_
      refine JC_sesGet (f := true) (l := m) (m.getD j dS) (by repeat (first | with_reducible exact mm0 | refine mmS ?_)) (se_mem (by omega)) ?_
      have hbj := hbm j
      have hln := meetI_len (meetL (l.map Se.qq) (m.map Se.qq) i) ((l.map Se.qq).getD i (0, 0)) (m.map Se.qq) j
      rw [← hr2, List.length_map, hn2] at hln
      have hll := meetL_len (l.map Se.qq) (m.map Se.qq) i
      rw [List.length_map] at hll
      have hmm : i * m.length ≤ 2000 * 2000 := Nat.mul_le_mul (by omega) hnm
      refine JC_region ?_
      refine JL_indexAddr j sl25 rfl rfl rfl (by omega) (by first | exact Reads.view (by repeat (first | with_reducible exact mm0 | refine mmS ?_)) | (exact Reads.own 0 rfl)) (by rw [scells_length]; omega) ?_
      refine JL_loadEA (vs := [_, _, _, _, _, _]) ty41 (Nat.zero_lt_succ _) rfl (by first | exact Reads.view (by repeat (first | with_reducible exact mm0 | refine mmS ?_)) | (exact Reads.own 0 rfl)) (scells_getA (by omega)) ?_
      refine JL_alloc z41 (fun b9 => ?_)
      refine JL_store (vs := [_, _, _, _, _, _]) 2 ty41 rfl rfl rfl (AllOne.cons rfl (AllOne.cons rfl (AllOne.cons rfl (AllOne.cons rfl (AllOne.cons rfl (AllOne.cons rfl AllOne.nil)))))) rfl (Nat.le_of_ble_eq_true rfl) ?_
      refine JL_done_up 55 [osl _ _ _ _ _ _, box _ _ [_, _, _, _, _, _], box _ _ [_, _, _, _, _, _]] [_, _, _, _, _, _, _, _, _, _, _, _, _, _, _] rfl rfl (by simp only [nrmF]; rfl) rfl rfl ?_
      refine JC_seq ?_
      refine JC_drawR mixed 7 [srV 24 [] _, srV 25 [0] _, srV 26 [] _, srV 27 [2] _, srA 10 35 [.bool false, .slice none 0 0, .slice none 0 0], srA 11 35 [.bool false, .slice none 0 0, .slice none 0 0], srW 61 [1, 4] 4 (wR0 1 35 [_, _, _])] ⟨OblR_V (fun vals rs ex ψ => (by
          intro _
          refine JL_normQ ⟨55, [(24, _), (25, _), (26, _), (27, _), (10, _), (11, _), (61, _)], _⟩ (_ :: _ :: _ :: _ :: _ :: _ :: _ :: _ :: _ :: _ :: _ :: _ :: _ :: _ :: _ :: ψ) rfl rfl ?_
          refine JL_fieldAddr fo41_0 rfl ?_
          exact JL_nil (JE_stepV rfl ss0))), OblR_V (fun vals rs ex ψ => (by
          intro _
          refine JL_normQ ⟨55, [(24, _), (25, _), (26, _), (27, _), (10, _), (11, _), (61, _)], _⟩ (_ :: _ :: _ :: _ :: _ :: _ :: _ :: _ :: _ :: _ :: _ :: _ :: _ :: _ :: _ :: ψ) rfl rfl ?_
          refine JL_loadA (vs := [_, _, _]) 1 ty35 rfl rfl ⟨rfl, rfl, rfl, trivial⟩ ?_
          exact JL_nil (JE_stepV rfl ss0))), OblR_V (fun vals rs ex ψ => (by
          intro _
          refine JL_normQ ⟨55, [(24, _), (25, _), (26, _), (27, _), (10, _), (11, _), (61, _)], _⟩ (_ :: _ :: _ :: _ :: _ :: _ :: _ :: _ :: _ :: _ :: _ :: _ :: _ :: _ :: _ :: ψ) rfl rfl ?_
          refine JL_fieldAddr fo41_1 rfl ?_
          exact JL_nil (JE_stepV rfl ss0))), OblR_V (fun vals rs ex ψ => (by
          intro _
          refine JL_normQ ⟨55, [(24, _), (25, _), (26, _), (27, _), (10, _), (11, _), (61, _)], _⟩ (_ :: _ :: _ :: _ :: _ :: _ :: _ :: _ :: _ :: _ :: _ :: _ :: _ :: _ :: _ :: ψ) rfl rfl ?_
          refine JL_loadA (vs := [_, _, _]) 1 ty35 rfl rfl ⟨rfl, rfl, rfl, trivial⟩ ?_
          exact JL_nil (JE_stepV rfl ss0))), OblR_al z35, OblR_al z35, OblR_W (fun vals rs ex ψ => (by
          rintro ⟨⟨b10, hv10, hr10⟩, -⟩
          refine JL_normG ⟨55, [(24, _), (25, _), (26, _), (27, _), (10, vals 4), (11, _), (61, _)], _⟩ (_ :: _ :: _ :: _ :: _ :: _ :: _ :: _ :: _ :: _ :: _ :: _ :: _ :: _ :: _ :: ψ) rfl rfl ?_
          rw [hv10]
          rw [hr10]
          refine JL_store (vs := [_, _, _]) 3 ty35 rfl rfl rfl (AllOne.cons rfl (AllOne.cons rfl (AllOne.cons rfl AllOne.nil))) rfl (Nat.le_of_ble_eq_true rfl) ?_
          exact JL_nil (JE_stepW (box b10 35 [_, _, _]) undef rfl rfl ⟨b10, hv10, rfl⟩ ss0))), trivial⟩ (by kernel_rfl) (fun vals rs => ?_)
      rintro ⟨-, ⟨b11, hv11, hr11⟩, ⟨b10, hv10, hr10⟩, -⟩
      refine JL_normL [_] ⟨55, [(24, _), (25, _), (26, _), (27, _), (10, vals 4), (11, vals 5), (61, vals 6)], _⟩ [osl _ _ _ _ _ _, box _ _ [_, _, _, _, _, _], box _ _ [_, _, _, _, _, _], rs 5, rs 6] [_, _, _, _, _, _, _, _, _, _, _, _, _, _, _] rfl rfl rfl rfl ?_
      replace hv11 : vals 5 = _ := hv11
      replace hr11 : rs 5 = _ := hr11
      rw [hv11, hr11]
      replace hv10 : vals 4 = _ := hv10
      replace hr10 : rs 6 = _ := hr10
      rw [hv10, hr10]
      refine JL_norm _ [osl _ _ _ _ _ _, box _ _ [_, _, _, _, _, _], box _ _ [_, _, _, _, _, _], box _ _ [_, _, _], box _ _ [_, _, _]] [_, _, _, _, _, _, _, _, _, _, _, _, _, _, _] rfl rfl rfl ?_
      refine JL_store (vs := [_, _, _]) 3 ty35 rfl rfl rfl (AllOne.cons rfl (AllOne.cons rfl (AllOne.cons rfl AllOne.nil))) rfl (Nat.le_of_ble_eq_true rfl) ?_
      refine JL_done_up 55 [osl _ _ _ _ _ _, box _ _ [_, _, _, _, _, _], box _ _ [_, _, _, _, _, _], box _ _ [_, _, _], box _ _ [_, _, _]] [_, _, _, _, _, _, _, _, _, _, _, _, _, _, _] rfl rfl (by simp only [nrmF]; rfl) rfl rfl ?_
      refine JC_seq ?_
      refine JC_seq ?_
      refine JC_region ?_
      refine JL_fieldAddr fo41_0 rfl ?_
      refine JL_loadA (vs := [_, _, _]) 2 ty35 rfl rfl ⟨rfl, rfl, rfl, trivial⟩ ?_
      refine JL_loadA (vs := [_, _, _]) 4 ty35 rfl rfl ⟨rfl, rfl, rfl, trivial⟩ ?_
      refine JL_callF' (Asks.cons (by first | exact holds_of_mem (by repeat (first | with_reducible exact mm0 | refine mmS ?_)) | (exact holds_of_own 0 rfl)) (Asks.cons (by first | exact holds_of_mem (by repeat (first | with_reducible exact mm0 | refine mmS ?_)) | (exact holds_of_own 0 rfl)) (Asks.cons (by first | exact holds_of_mem (by repeat (first | with_reducible exact mm0 | refine mmS ?_)) | (exact holds_of_own 0 rfl)) (Asks.cons (by first | exact holds_of_mem (by repeat (first | with_reducible exact mm0 | refine mmS ?_)) | (exact holds_of_own 0 rfl)) Asks.nil)))) (fcmpq_con (FIn.some (hbj.1.mono (by decide))) (FIn.some (hbi.1.mono (by decide)))) rfl ca23 ⟨rfl, rfl, rfl⟩ ?_
      rintro _ _ ⟨rfl, rfl⟩
      refine JL_gtr rfl rfl ?_
      refine JL_split (fun h32 => ?_) (fun h32 => ?_)
      · obtain ⟨zl, hzzl⟩ : ∃ z : Fe, (m.getD j dS).lo = z := ⟨_, rfl⟩
        rw [hzzl]
        have hlo : (if (l.getD i dS).lo.q < (m.getD j dS).lo.q then (m.getD j dS).lo.q else (l.getD i dS).lo.q) = zl.q := by rw [if_pos (cmpQ_pos.1 h32), hzzl]
        have hql : qs zl.q 3 := by rw [← hzzl]; exact hbj.1
        refine JL_done_up 55 [osl _ _ _ _ _ _, box _ _ [_, _, _, _, _, _], box _ _ [_, _, _, _, _, _], box _ _ [_, _, _], box _ _ [_, _, _]] [_, _, _, _, _, _, _, _, _, _, _, _, _, _, _] rfl rfl (by simp only [nrmF]; rfl) rfl rfl ?_
        refine JC_true rfl ?_
        refine JC_region ?_
        refine JL_fieldAddr fo41_0 rfl ?_
        refine JL_loadA (vs := [_, _, _]) 2 ty35 rfl rfl ⟨rfl, rfl, rfl, trivial⟩ ?_
        refine JL_store (vs := [_, _, _]) 4 ty35 rfl rfl rfl (AllOne.cons rfl (AllOne.cons rfl (AllOne.cons rfl AllOne.nil))) rfl (Nat.le_of_ble_eq_true rfl) ?_
        refine JL_done_up 55 [osl _ _ _ _ _ _, box _ _ [_, _, _, _, _, _], box _ _ [_, _, _, _, _, _], box _ _ [_, _, _], box _ _ [_, _, _]] [_, _, _, _, _, _, _, _, _, _, _, _, _, _, _] rfl rfl (by simp only [nrmF]; rfl) rfl rfl ?_
        refine JC_seq ?_
        refine JC_seq ?_
        refine JC_region ?_
        refine JL_fieldAddr fo41_1 rfl ?_
        refine JL_loadA (vs := [_, _, _]) 2 ty35 rfl rfl ⟨rfl, rfl, rfl, trivial⟩ ?_
        refine JL_loadA (vs := [_, _, _]) 3 ty35 rfl rfl ⟨rfl, rfl, rfl, trivial⟩ ?_
        refine JL_callF' (Asks.cons (by first | exact holds_of_mem (by repeat (first | with_reducible exact mm0 | refine mmS ?_)) | (exact holds_of_own 0 rfl)) (Asks.cons (by first | exact holds_of_mem (by repeat (first | with_reducible exact mm0 | refine mmS ?_)) | (exact holds_of_own 0 rfl)) (Asks.cons (by first | exact holds_of_mem (by repeat (first | with_reducible exact mm0 | refine mmS ?_)) | (exact holds_of_own 0 rfl)) (Asks.cons (by first | exact holds_of_mem (by repeat (first | with_reducible exact mm0 | refine mmS ?_)) | (exact holds_of_own 0 rfl)) Asks.nil)))) (fcmpq_con (FIn.some (hbj.2.mono (by decide))) (FIn.some (hbi.2.mono (by decide)))) rfl ca23 ⟨rfl, rfl, rfl⟩ ?_
        rintro _ _ ⟨rfl, rfl⟩
        refine JL_lss rfl rfl ?_
        refine JL_split (fun h39 => ?_) (fun h39 => ?_)
        · obtain ⟨zh, hzzh⟩ : ∃ z : Fe, (m.getD j dS).hi = z := ⟨_, rfl⟩
          rw [hzzh]
          have hhi : (if (m.getD j dS).hi.q < (l.getD i dS).hi.q then (m.getD j dS).hi.q else (l.getD i dS).hi.q) = zh.q := by rw [if_pos (cmpQ_neg.1 h39), hzzh]
          have hqh : qs zh.q 3 := by rw [← hzzh]; exact hbj.2
          refine JL_done_up 55 [osl _ _ _ _ _ _, box _ _ [_, _, _, _, _, _], box _ _ [_, _, _, _, _, _], box _ _ [_, _, _], box _ _ [_, _, _]] [_, _, _, _, _, _, _, _, _, _, _, _, _, _, _] rfl rfl (by simp only [nrmF]; rfl) rfl rfl ?_
          refine JC_true rfl ?_
          refine JC_region ?_
          refine JL_fieldAddr fo41_1 rfl ?_
          refine JL_loadA (vs := [_, _, _]) 2 ty35 rfl rfl ⟨rfl, rfl, rfl, trivial⟩ ?_
          refine JL_store (vs := [_, _, _]) 3 ty35 rfl rfl rfl (AllOne.cons rfl (AllOne.cons rfl (AllOne.cons rfl AllOne.nil))) rfl (Nat.le_of_ble_eq_true rfl) ?_
          refine JL_done_up 55 [osl _ _ _ _ _ _, box _ _ [_, _, _, _, _, _], box _ _ [_, _, _, _, _, _], box _ _ [_, _, _], box _ _ [_, _, _]] [_, _, _, _, _, _, _, _, _, _, _, _, _, _, _] rfl rfl (by simp only [nrmF]; rfl) rfl rfl ?_
          refine JC_seq ?_
          refine JC_region ?_
          refine JL_loadA (vs := [_, _, _]) 4 ty35 rfl rfl ⟨rfl, rfl, rfl, trivial⟩ ?_
          refine JL_loadA (vs := [_, _, _]) 3 ty35 rfl rfl ⟨rfl, rfl, rfl, trivial⟩ ?_
          refine JL_callF' (Asks.cons (by first | exact holds_of_mem (by repeat (first | with_reducible exact mm0 | refine mmS ?_)) | (exact holds_of_own 0 rfl)) (Asks.cons (by first | exact holds_of_mem (by repeat (first | with_reducible exact mm0 | refine mmS ?_)) | (exact holds_of_own 0 rfl)) (Asks.cons (by first | exact holds_of_mem (by repeat (first | with_reducible exact mm0 | refine mmS ?_)) | (exact holds_of_own 0 rfl)) (Asks.cons (by first | exact holds_of_mem (by repeat (first | with_reducible exact mm0 | refine mmS ?_)) | (exact holds_of_own 0 rfl)) Asks.nil)))) (fcmpq_con (FIn.some (hql.mono (by decide))) (FIn.some (hqh.mono (by decide)))) rfl ca23 ⟨rfl, rfl, rfl⟩ ?_
          rintro _ _ ⟨rfl, rfl⟩
          refine JL_leq rfl rfl ?_
          refine JL_split (fun h45 => ?_) (fun h45 => ?_)
          · have hle : zl.q ≤ zh.q := cmpQ_le.1 h45
            refine JL_done_up 55 [osl _ _ _ _ _ _, box _ _ [_, _, _, _, _, _], box _ _ [_, _, _, _, _, _], box _ _ [_, _, _], box _ _ [_, _, _]] [_, _, _, _, _, _, _, _, _, _, _, _, _, _, _] rfl rfl (by simp only [nrmF]; rfl) rfl rfl ?_
            refine JC_true rfl ?_
            refine JC_region ?_
            refine JL_move rfl ?_
            refine JL_loadA (vs := [_, _, _]) 4 ty35 rfl rfl ⟨rfl, rfl, rfl, trivial⟩ ?_
            refine JL_loadA (vs := [_, _, _]) 3 ty35 rfl rfl ⟨rfl, rfl, rfl, trivial⟩ ?_
            refine JL_build (cs := [_, _, _, _, _, _]) [(0, [_, _, _]), (1, [_, _, _])] st41 ⟨⟨rfl, _, rfl, rfl⟩, ⟨rfl, _, rfl, rfl⟩, rfl⟩ rfl ?_
            refine JL_buildN (cs0 := [.bool false, .slice none 0 0, .slice none 0 0, .bool false, .slice none 0 0, .slice none 0 0]) (cs := [_, _, _, _, _, _]) [(0, [_, _, _, _, _, _])] sl25 (by kernel_rfl) ⟨⟨rfl, _, rfl, rfl⟩, rfl⟩ rfl rfl rfl rfl (fun g50 => ?_)
            refine JL_append (news := [_, _, _, _, _, _]) 0 sl25 rfl (by decide) rfl rfl rfl rfl (Reads.own 5 rfl) (AllOne.cons rfl (AllOne.cons rfl (AllOne.cons rfl (AllOne.cons rfl (AllOne.cons rfl (AllOne.cons rfl AllOne.nil)))))) (by omega) (by omega) (fun ad51 cap51 hc51 => ?_)
            refine JL_dropAt 5 ?_
            refine JL_norm _ [osl _ _ _ _ _ _, box _ _ [_, _, _, _, _, _], box _ _ [_, _, _, _, _, _], box _ _ [_, _, _], box _ _ [_, _, _]] [_, _, _, _, _, _, _, _, _, _, _, _, _, _, _] rfl rfl rfl ?_
            rw [show scells r2 ++ sc ⟨zl, zh⟩ = scells (r2 ++ [⟨zl, zh⟩]) from scells_snoc r2 _]
            refine JL_sesSnoc (f := true) (l := r2) ⟨zl, zh⟩ (by repeat (first | with_reducible exact mm0 | refine mmS ?_)) (by repeat (first | with_reducible exact mm0 | refine mmS ?_)) (by repeat (first | with_reducible exact mm0 | refine mmS ?_)) (by repeat (first | with_reducible exact mm0 | refine mmS ?_)) (by repeat (first | with_reducible exact mm0 | refine mmS ?_)) ?_
            refine JL_assign rfl ?_
            refine JL_nil_up 55 [osl _ _ _ _ _ _, box _ _ [_, _, _, _, _, _], box _ _ [_, _, _, _, _, _], box _ _ [_, _, _], box _ _ [_, _, _]] [_, _, _, _, _, _, _, _, _, _, _, _, _, _, _, _] rfl rfl (by simp only [nrmF]; rfl) rfl rfl ?_
            refine JE_block_normal ?_
            refine JE_then ?_
            subst hzzl
            subst hzzh
            refine JC_region ?_
            refine JL_add_to rfl rfl (IntWalk.i64_in _ (by omega)) ?_
            refine JL_move rfl ?_
            refine JL_nil_up 55 [osl _ _ _ _ _ _, box _ _ [_, _, _, _, _, _], box _ _ [_, _, _, _, _, _], box _ _ [_, _, _], box _ _ [_, _, _]] [_, _, _, _, _, _, _, _, _, _, _, _, _, _, _, _] rfl rfl (by simp only [nrmF]; rfl) rfl rfl ?_
            refine JE_dropAt 4 ?_
            refine JE_norm _ [osl _ _ _ _ _ _, box _ _ [_, _, _, _, _, _], box _ _ [_, _, _, _, _, _], box _ _ [_, _, _]] [_, _, _, _, _, _, _, _, _, _, _, _, _, _, _, _] rfl rfl rfl ?_
            refine JE_dropAt 3 ?_
            refine JE_norm _ [osl _ _ _ _ _ _, box _ _ [_, _, _, _, _, _], box _ _ [_, _, _, _, _, _]] [_, _, _, _, _, _, _, _, _, _, _, _, _, _, _, _] rfl rfl rfl ?_
            refine JE_dropAt 2 ?_
            refine JE_norm _ [osl _ _ _ _ _ _, box _ _ [_, _, _, _, _, _]] [_, _, _, _, _, _, _, _, _, _, _, _, _, _, _, _] rfl rfl rfl ?_
            refine JE_nextS (j + 1, r2 ++ [⟨(m.getD j dS).lo, (m.getD j dS).hi⟩], ad51, cap51, n2 + 1) (by kernel_rfl) ?_ ?_ (by kernel_rfl) ?_
            · exact ⟨by omega, meetI_add hr2 hlo hhi hle, by rw [List.length_append, hn2]; rfl⟩
            · first | omega | (dsimp only; omega)
            · exact subset_app (subset_cons (by repeat (first | with_reducible exact mm0 | refine mmS ?_)) subset_nil) (ssS (ssS (ssS (ssS (ssS (ssS ss0))))))
          · have hle : ¬ zl.q ≤ zh.q := fun e => h45 (cmpQ_le.2 e)
            refine JL_done_up 55 [osl _ _ _ _ _ _, box _ _ [_, _, _, _, _, _], box _ _ [_, _, _, _, _, _], box _ _ [_, _, _], box _ _ [_, _, _]] [_, _, _, _, _, _, _, _, _, _, _, _, _, _, _] rfl rfl (by simp only [nrmF]; rfl) rfl rfl ?_
            refine JC_false rfl ?_
            refine JC_skip ?_
            refine JE_block_normal ?_
            refine JE_then ?_
            subst hzzl
            subst hzzh
            refine JC_region ?_
            refine JL_add_to rfl rfl (IntWalk.i64_in _ (by omega)) ?_
            refine JL_move rfl ?_
            refine JL_nil_up 55 [osl _ _ _ _ _ _, box _ _ [_, _, _, _, _, _], box _ _ [_, _, _, _, _, _], box _ _ [_, _, _], box _ _ [_, _, _]] [_, _, _, _, _, _, _, _, _, _, _, _, _, _, _] rfl rfl (by simp only [nrmF]; rfl) rfl rfl ?_
            refine JE_dropAt 4 ?_
            refine JE_norm _ [osl _ _ _ _ _ _, box _ _ [_, _, _, _, _, _], box _ _ [_, _, _, _, _, _], box _ _ [_, _, _]] [_, _, _, _, _, _, _, _, _, _, _, _, _, _, _] rfl rfl rfl ?_
            refine JE_dropAt 3 ?_
            refine JE_norm _ [osl _ _ _ _ _ _, box _ _ [_, _, _, _, _, _], box _ _ [_, _, _, _, _, _]] [_, _, _, _, _, _, _, _, _, _, _, _, _, _, _] rfl rfl rfl ?_
            refine JE_dropAt 2 ?_
            refine JE_norm _ [osl _ _ _ _ _ _, box _ _ [_, _, _, _, _, _]] [_, _, _, _, _, _, _, _, _, _, _, _, _, _, _] rfl rfl rfl ?_
            refine JE_nextS (j + 1, r2, ad2_, cap2, n2) (by kernel_rfl) ?_ ?_ (by kernel_rfl) ?_
            · exact ⟨by omega, meetI_keep hr2 hlo hhi hle, hn2⟩
            · first | omega | (dsimp only; omega)
            · exact subset_app (subset_cons (by repeat (first | with_reducible exact mm0 | refine mmS ?_)) subset_nil) (ssS (ssS (ssS (ssS (ssS ss0)))))
        · obtain ⟨zh, hzzh⟩ : ∃ z : Fe, (l.getD i dS).hi = z := ⟨_, rfl⟩
          rw [hzzh]
          have hhi : (if (m.getD j dS).hi.q < (l.getD i dS).hi.q then (m.getD j dS).hi.q else (l.getD i dS).hi.q) = zh.q := by rw [if_neg (fun e => h39 (cmpQ_neg.2 e)), hzzh]
          have hqh : qs zh.q 3 := by rw [← hzzh]; exact hbi.2
          refine JL_done_up 55 [osl _ _ _ _ _ _, box _ _ [_, _, _, _, _, _], box _ _ [_, _, _, _, _, _], box _ _ [_, _, _], box _ _ [_, _, _]] [_, _, _, _, _, _, _, _, _, _, _, _, _, _, _] rfl rfl (by simp only [nrmF]; rfl) rfl rfl ?_
          refine JC_false rfl ?_
          refine JC_skip ?_
          refine JE_then ?_
          refine JC_seq ?_
          refine JC_region ?_
          refine JL_loadA (vs := [_, _, _]) 4 ty35 rfl rfl ⟨rfl, rfl, rfl, trivial⟩ ?_
          refine JL_loadA (vs := [_, _, _]) 3 ty35 rfl rfl ⟨rfl, rfl, rfl, trivial⟩ ?_
          refine JL_callF' (Asks.cons (by first | exact holds_of_mem (by repeat (first | with_reducible exact mm0 | refine mmS ?_)) | (exact holds_of_own 0 rfl)) (Asks.cons (by first | exact holds_of_mem (by repeat (first | with_reducible exact mm0 | refine mmS ?_)) | (exact holds_of_own 0 rfl)) (Asks.cons (by first | exact holds_of_mem (by repeat (first | with_reducible exact mm0 | refine mmS ?_)) | (exact holds_of_own 0 rfl)) (Asks.cons (by first | exact holds_of_mem (by repeat (first | with_reducible exact mm0 | refine mmS ?_)) | (exact holds_of_own 0 rfl)) Asks.nil)))) (fcmpq_con (FIn.some (hql.mono (by decide))) (FIn.some (hqh.mono (by decide)))) rfl ca23 ⟨rfl, rfl, rfl⟩ ?_
          rintro _ _ ⟨rfl, rfl⟩
          refine JL_leq rfl rfl ?_
          refine JL_split (fun h45 => ?_) (fun h45 => ?_)
          · have hle : zl.q ≤ zh.q := cmpQ_le.1 h45
            refine JL_done_up 55 [osl _ _ _ _ _ _, box _ _ [_, _, _, _, _, _], box _ _ [_, _, _, _, _, _], box _ _ [_, _, _], box _ _ [_, _, _]] [_, _, _, _, _, _, _, _, _, _, _, _, _, _, _] rfl rfl (by simp only [nrmF]; rfl) rfl rfl ?_
            refine JC_true rfl ?_
            refine JC_region ?_
            refine JL_move rfl ?_
            refine JL_loadA (vs := [_, _, _]) 4 ty35 rfl rfl ⟨rfl, rfl, rfl, trivial⟩ ?_
            refine JL_loadA (vs := [_, _, _]) 3 ty35 rfl rfl ⟨rfl, rfl, rfl, trivial⟩ ?_
            refine JL_build (cs := [_, _, _, _, _, _]) [(0, [_, _, _]), (1, [_, _, _])] st41 ⟨⟨rfl, _, rfl, rfl⟩, ⟨rfl, _, rfl, rfl⟩, rfl⟩ rfl ?_
            refine JL_buildN (cs0 := [.bool false, .slice none 0 0, .slice none 0 0, .bool false, .slice none 0 0, .slice none 0 0]) (cs := [_, _, _, _, _, _]) [(0, [_, _, _, _, _, _])] sl25 (by kernel_rfl) ⟨⟨rfl, _, rfl, rfl⟩, rfl⟩ rfl rfl rfl rfl (fun g50 => ?_)
            refine JL_append (news := [_, _, _, _, _, _]) 0 sl25 rfl (by decide) rfl rfl rfl rfl (Reads.own 5 rfl) (AllOne.cons rfl (AllOne.cons rfl (AllOne.cons rfl (AllOne.cons rfl (AllOne.cons rfl (AllOne.cons rfl AllOne.nil)))))) (by omega) (by omega) (fun ad51 cap51 hc51 => ?_)
            refine JL_dropAt 5 ?_
            refine JL_norm _ [osl _ _ _ _ _ _, box _ _ [_, _, _, _, _, _], box _ _ [_, _, _, _, _, _], box _ _ [_, _, _], box _ _ [_, _, _]] [_, _, _, _, _, _, _, _, _, _, _, _, _, _, _] rfl rfl rfl ?_
            rw [show scells r2 ++ sc ⟨zl, zh⟩ = scells (r2 ++ [⟨zl, zh⟩]) from scells_snoc r2 _]
            refine JL_sesSnoc (f := true) (l := r2) ⟨zl, zh⟩ (by repeat (first | with_reducible exact mm0 | refine mmS ?_)) (by repeat (first | with_reducible exact mm0 | refine mmS ?_)) (by repeat (first | with_reducible exact mm0 | refine mmS ?_)) (by repeat (first | with_reducible exact mm0 | refine mmS ?_)) (by repeat (first | with_reducible exact mm0 | refine mmS ?_)) ?_
            refine JL_assign rfl ?_
            refine JL_nil_up 55 [osl _ _ _ _ _ _, box _ _ [_, _, _, _, _, _], box _ _ [_, _, _, _, _, _], box _ _ [_, _, _], box _ _ [_, _, _]] [_, _, _, _, _, _, _, _, _, _, _, _, _, _, _, _] rfl rfl (by simp only [nrmF]; rfl) rfl rfl ?_
            refine JE_block_normal ?_
            refine JE_then ?_
            subst hzzl
            subst hzzh
            refine JC_region ?_
            refine JL_add_to rfl rfl (IntWalk.i64_in _ (by omega)) ?_
            refine JL_move rfl ?_
            refine JL_nil_up 55 [osl _ _ _ _ _ _, box _ _ [_, _, _, _, _, _], box _ _ [_, _, _, _, _, _], box _ _ [_, _, _], box _ _ [_, _, _]] [_, _, _, _, _, _, _, _, _, _, _, _, _, _, _, _] rfl rfl (by simp only [nrmF]; rfl) rfl rfl ?_
            refine JE_dropAt 4 ?_
            refine JE_norm _ [osl _ _ _ _ _ _, box _ _ [_, _, _, _, _, _], box _ _ [_, _, _, _, _, _], box _ _ [_, _, _]] [_, _, _, _, _, _, _, _, _, _, _, _, _, _, _, _] rfl rfl rfl ?_
            refine JE_dropAt 3 ?_
            refine JE_norm _ [osl _ _ _ _ _ _, box _ _ [_, _, _, _, _, _], box _ _ [_, _, _, _, _, _]] [_, _, _, _, _, _, _, _, _, _, _, _, _, _, _, _] rfl rfl rfl ?_
            refine JE_dropAt 2 ?_
            refine JE_norm _ [osl _ _ _ _ _ _, box _ _ [_, _, _, _, _, _]] [_, _, _, _, _, _, _, _, _, _, _, _, _, _, _, _] rfl rfl rfl ?_
            refine JE_nextS (j + 1, r2 ++ [⟨(m.getD j dS).lo, (l.getD i dS).hi⟩], ad51, cap51, n2 + 1) (by kernel_rfl) ?_ ?_ (by kernel_rfl) ?_
            · exact ⟨by omega, meetI_add hr2 hlo hhi hle, by rw [List.length_append, hn2]; rfl⟩
            · first | omega | (dsimp only; omega)
            · exact subset_app (subset_cons (by repeat (first | with_reducible exact mm0 | refine mmS ?_)) subset_nil) (ssS (ssS (ssS (ssS (ssS (ssS ss0))))))
          · have hle : ¬ zl.q ≤ zh.q := fun e => h45 (cmpQ_le.2 e)
            refine JL_done_up 55 [osl _ _ _ _ _ _, box _ _ [_, _, _, _, _, _], box _ _ [_, _, _, _, _, _], box _ _ [_, _, _], box _ _ [_, _, _]] [_, _, _, _, _, _, _, _, _, _, _, _, _, _, _] rfl rfl (by simp only [nrmF]; rfl) rfl rfl ?_
            refine JC_false rfl ?_
            refine JC_skip ?_
            refine JE_block_normal ?_
            refine JE_then ?_
            subst hzzl
            subst hzzh
            refine JC_region ?_
            refine JL_add_to rfl rfl (IntWalk.i64_in _ (by omega)) ?_
            refine JL_move rfl ?_
            refine JL_nil_up 55 [osl _ _ _ _ _ _, box _ _ [_, _, _, _, _, _], box _ _ [_, _, _, _, _, _], box _ _ [_, _, _], box _ _ [_, _, _]] [_, _, _, _, _, _, _, _, _, _, _, _, _, _, _] rfl rfl (by simp only [nrmF]; rfl) rfl rfl ?_
            refine JE_dropAt 4 ?_
            refine JE_norm _ [osl _ _ _ _ _ _, box _ _ [_, _, _, _, _, _], box _ _ [_, _, _, _, _, _], box _ _ [_, _, _]] [_, _, _, _, _, _, _, _, _, _, _, _, _, _, _] rfl rfl rfl ?_
            refine JE_dropAt 3 ?_
            refine JE_norm _ [osl _ _ _ _ _ _, box _ _ [_, _, _, _, _, _], box _ _ [_, _, _, _, _, _]] [_, _, _, _, _, _, _, _, _, _, _, _, _, _, _] rfl rfl rfl ?_
            refine JE_dropAt 2 ?_
            refine JE_norm _ [osl _ _ _ _ _ _, box _ _ [_, _, _, _, _, _]] [_, _, _, _, _, _, _, _, _, _, _, _, _, _, _] rfl rfl rfl ?_
            refine JE_nextS (j + 1, r2, ad2_, cap2, n2) (by kernel_rfl) ?_ ?_ (by kernel_rfl) ?_
            · exact ⟨by omega, meetI_keep hr2 hlo hhi hle, hn2⟩
            · first | omega | (dsimp only; omega)
            · exact subset_app (subset_cons (by repeat (first | with_reducible exact mm0 | refine mmS ?_)) subset_nil) (ssS (ssS (ssS (ssS (ssS ss0)))))
      · obtain ⟨zl, hzzl⟩ : ∃ z : Fe, (l.getD i dS).lo = z := ⟨_, rfl⟩
        rw [hzzl]
        have hlo : (if (l.getD i dS).lo.q < (m.getD j dS).lo.q then (m.getD j dS).lo.q else (l.getD i dS).lo.q) = zl.q := by rw [if_neg (fun e => h32 (cmpQ_pos.2 e)), hzzl]
        have hql : qs zl.q 3 := by rw [← hzzl]; exact hbi.1
        refine JL_done_up 55 [osl _ _ _ _ _ _, box _ _ [_, _, _, _, _, _], box _ _ [_, _, _, _, _, _], box _ _ [_, _, _], box _ _ [_, _, _]] [_, _, _, _, _, _, _, _, _, _, _, _, _, _, _] rfl rfl (by simp only [nrmF]; rfl) rfl rfl ?_
        refine JC_false rfl ?_
        refine JC_skip ?_
        refine JE_then ?_
        refine JC_seq ?_
        refine JC_seq ?_
        refine JC_region ?_
        refine JL_fieldAddr fo41_1 rfl ?_
        refine JL_loadA (vs := [_, _, _]) 2 ty35 rfl rfl ⟨rfl, rfl, rfl, trivial⟩ ?_
        refine JL_loadA (vs := [_, _, _]) 3 ty35 rfl rfl ⟨rfl, rfl, rfl, trivial⟩ ?_
        refine JL_callF' (Asks.cons (by first | exact holds_of_mem (by repeat (first | with_reducible exact mm0 | refine mmS ?_)) | (exact holds_of_own 0 rfl)) (Asks.cons (by first | exact holds_of_mem (by repeat (first | with_reducible exact mm0 | refine mmS ?_)) | (exact holds_of_own 0 rfl)) (Asks.cons (by first | exact holds_of_mem (by repeat (first | with_reducible exact mm0 | refine mmS ?_)) | (exact holds_of_own 0 rfl)) (Asks.cons (by first | exact holds_of_mem (by repeat (first | with_reducible exact mm0 | refine mmS ?_)) | (exact holds_of_own 0 rfl)) Asks.nil)))) (fcmpq_con (FIn.some (hbj.2.mono (by decide))) (FIn.some (hbi.2.mono (by decide)))) rfl ca23 ⟨rfl, rfl, rfl⟩ ?_
        rintro _ _ ⟨rfl, rfl⟩
        refine JL_lss rfl rfl ?_
        refine JL_split (fun h39 => ?_) (fun h39 => ?_)
        · obtain ⟨zh, hzzh⟩ : ∃ z : Fe, (m.getD j dS).hi = z := ⟨_, rfl⟩
          rw [hzzh]
          have hhi : (if (m.getD j dS).hi.q < (l.getD i dS).hi.q then (m.getD j dS).hi.q else (l.getD i dS).hi.q) = zh.q := by rw [if_pos (cmpQ_neg.1 h39), hzzh]
          have hqh : qs zh.q 3 := by rw [← hzzh]; exact hbj.2
          refine JL_done_up 55 [osl _ _ _ _ _ _, box _ _ [_, _, _, _, _, _], box _ _ [_, _, _, _, _, _], box _ _ [_, _, _], box _ _ [_, _, _]] [_, _, _, _, _, _, _, _, _, _, _, _, _, _, _] rfl rfl (by simp only [nrmF]; rfl) rfl rfl ?_
          refine JC_true rfl ?_
          refine JC_region ?_
          refine JL_fieldAddr fo41_1 rfl ?_
          refine JL_loadA (vs := [_, _, _]) 2 ty35 rfl rfl ⟨rfl, rfl, rfl, trivial⟩ ?_
          refine JL_store (vs := [_, _, _]) 3 ty35 rfl rfl rfl (AllOne.cons rfl (AllOne.cons rfl (AllOne.cons rfl AllOne.nil))) rfl (Nat.le_of_ble_eq_true rfl) ?_
          refine JL_done_up 55 [osl _ _ _ _ _ _, box _ _ [_, _, _, _, _, _], box _ _ [_, _, _, _, _, _], box _ _ [_, _, _], box _ _ [_, _, _]] [_, _, _, _, _, _, _, _, _, _, _, _, _, _, _] rfl rfl (by simp only [nrmF]; rfl) rfl rfl ?_
          refine JC_seq ?_
          refine JC_region ?_
          refine JL_loadA (vs := [_, _, _]) 4 ty35 rfl rfl ⟨rfl, rfl, rfl, trivial⟩ ?_
          refine JL_loadA (vs := [_, _, _]) 3 ty35 rfl rfl ⟨rfl, rfl, rfl, trivial⟩ ?_
          refine JL_callF' (Asks.cons (by first | exact holds_of_mem (by repeat (first | with_reducible exact mm0 | refine mmS ?_)) | (exact holds_of_own 0 rfl)) (Asks.cons (by first | exact holds_of_mem (by repeat (first | with_reducible exact mm0 | refine mmS ?_)) | (exact holds_of_own 0 rfl)) (Asks.cons (by first | exact holds_of_mem (by repeat (first | with_reducible exact mm0 | refine mmS ?_)) | (exact holds_of_own 0 rfl)) (Asks.cons (by first | exact holds_of_mem (by repeat (first | with_reducible exact mm0 | refine mmS ?_)) | (exact holds_of_own 0 rfl)) Asks.nil)))) (fcmpq_con (FIn.some (hql.mono (by decide))) (FIn.some (hqh.mono (by decide)))) rfl ca23 ⟨rfl, rfl, rfl⟩ ?_
          rintro _ _ ⟨rfl, rfl⟩
          refine JL_leq rfl rfl ?_
          refine JL_split (fun h45 => ?_) (fun h45 => ?_)
          · have hle : zl.q ≤ zh.q := cmpQ_le.1 h45
            refine JL_done_up 55 [osl _ _ _ _ _ _, box _ _ [_, _, _, _, _, _], box _ _ [_, _, _, _, _, _], box _ _ [_, _, _], box _ _ [_, _, _]] [_, _, _, _, _, _, _, _, _, _, _, _, _, _, _] rfl rfl (by simp only [nrmF]; rfl) rfl rfl ?_
            refine JC_true rfl ?_
            refine JC_region ?_
            refine JL_move rfl ?_
            refine JL_loadA (vs := [_, _, _]) 4 ty35 rfl rfl ⟨rfl, rfl, rfl, trivial⟩ ?_
            refine JL_loadA (vs := [_, _, _]) 3 ty35 rfl rfl ⟨rfl, rfl, rfl, trivial⟩ ?_
            refine JL_build (cs := [_, _, _, _, _, _]) [(0, [_, _, _]), (1, [_, _, _])] st41 ⟨⟨rfl, _, rfl, rfl⟩, ⟨rfl, _, rfl, rfl⟩, rfl⟩ rfl ?_
            refine JL_buildN (cs0 := [.bool false, .slice none 0 0, .slice none 0 0, .bool false, .slice none 0 0, .slice none 0 0]) (cs := [_, _, _, _, _, _]) [(0, [_, _, _, _, _, _])] sl25 (by kernel_rfl) ⟨⟨rfl, _, rfl, rfl⟩, rfl⟩ rfl rfl rfl rfl (fun g50 => ?_)
            refine JL_append (news := [_, _, _, _, _, _]) 0 sl25 rfl (by decide) rfl rfl rfl rfl (Reads.own 5 rfl) (AllOne.cons rfl (AllOne.cons rfl (AllOne.cons rfl (AllOne.cons rfl (AllOne.cons rfl (AllOne.cons rfl AllOne.nil)))))) (by omega) (by omega) (fun ad51 cap51 hc51 => ?_)
            refine JL_dropAt 5 ?_
            refine JL_norm _ [osl _ _ _ _ _ _, box _ _ [_, _, _, _, _, _], box _ _ [_, _, _, _, _, _], box _ _ [_, _, _], box _ _ [_, _, _]] [_, _, _, _, _, _, _, _, _, _, _, _, _, _, _] rfl rfl rfl ?_
            rw [show scells r2 ++ sc ⟨zl, zh⟩ = scells (r2 ++ [⟨zl, zh⟩]) from scells_snoc r2 _]
            refine JL_sesSnoc (f := true) (l := r2) ⟨zl, zh⟩ (by repeat (first | with_reducible exact mm0 | refine mmS ?_)) (by repeat (first | with_reducible exact mm0 | refine mmS ?_)) (by repeat (first | with_reducible exact mm0 | refine mmS ?_)) (by repeat (first | with_reducible exact mm0 | refine mmS ?_)) (by repeat (first | with_reducible exact mm0 | refine mmS ?_)) ?_
            refine JL_assign rfl ?_
            refine JL_nil_up 55 [osl _ _ _ _ _ _, box _ _ [_, _, _, _, _, _], box _ _ [_, _, _, _, _, _], box _ _ [_, _, _], box _ _ [_, _, _]] [_, _, _, _, _, _, _, _, _, _, _, _, _, _, _, _] rfl rfl (by simp only [nrmF]; rfl) rfl rfl ?_
            refine JE_block_normal ?_
            refine JE_then ?_
            subst hzzl
            subst hzzh
            refine JC_region ?_
            refine JL_add_to rfl rfl (IntWalk.i64_in _ (by omega)) ?_
            refine JL_move rfl ?_
            refine JL_nil_up 55 [osl _ _ _ _ _ _, box _ _ [_, _, _, _, _, _], box _ _ [_, _, _, _, _, _], box _ _ [_, _, _], box _ _ [_, _, _]] [_, _, _, _, _, _, _, _, _, _, _, _, _, _, _, _] rfl rfl (by simp only [nrmF]; rfl) rfl rfl ?_
            refine JE_dropAt 4 ?_
            refine JE_norm _ [osl _ _ _ _ _ _, box _ _ [_, _, _, _, _, _], box _ _ [_, _, _, _, _, _], box _ _ [_, _, _]] [_, _, _, _, _, _, _, _, _, _, _, _, _, _, _, _] rfl rfl rfl ?_
            refine JE_dropAt 3 ?_
            refine JE_norm _ [osl _ _ _ _ _ _, box _ _ [_, _, _, _, _, _], box _ _ [_, _, _, _, _, _]] [_, _, _, _, _, _, _, _, _, _, _, _, _, _, _, _] rfl rfl rfl ?_
            refine JE_dropAt 2 ?_
            refine JE_norm _ [osl _ _ _ _ _ _, box _ _ [_, _, _, _, _, _]] [_, _, _, _, _, _, _, _, _, _, _, _, _, _, _, _] rfl rfl rfl ?_
            refine JE_nextS (j + 1, r2 ++ [⟨(l.getD i dS).lo, (m.getD j dS).hi⟩], ad51, cap51, n2 + 1) (by kernel_rfl) ?_ ?_ (by kernel_rfl) ?_
            · exact ⟨by omega, meetI_add hr2 hlo hhi hle, by rw [List.length_append, hn2]; rfl⟩
            · first | omega | (dsimp only; omega)
            · exact subset_app (subset_cons (by repeat (first | with_reducible exact mm0 | refine mmS ?_)) subset_nil) (ssS (ssS (ssS (ssS (ssS (ssS ss0))))))
          · have hle : ¬ zl.q ≤ zh.q := fun e => h45 (cmpQ_le.2 e)
            refine JL_done_up 55 [osl _ _ _ _ _ _, box _ _ [_, _, _, _, _, _], box _ _ [_, _, _, _, _, _], box _ _ [_, _, _], box _ _ [_, _, _]] [_, _, _, _, _, _, _, _, _, _, _, _, _, _, _] rfl rfl (by simp only [nrmF]; rfl) rfl rfl ?_
            refine JC_false rfl ?_
            refine JC_skip ?_
            refine JE_block_normal ?_
            refine JE_then ?_
            subst hzzl
            subst hzzh
            refine JC_region ?_
            refine JL_add_to rfl rfl (IntWalk.i64_in _ (by omega)) ?_
            refine JL_move rfl ?_
            refine JL_nil_up 55 [osl _ _ _ _ _ _, box _ _ [_, _, _, _, _, _], box _ _ [_, _, _, _, _, _], box _ _ [_, _, _], box _ _ [_, _, _]] [_, _, _, _, _, _, _, _, _, _, _, _, _, _, _] rfl rfl (by simp only [nrmF]; rfl) rfl rfl ?_
            refine JE_dropAt 4 ?_
            refine JE_norm _ [osl _ _ _ _ _ _, box _ _ [_, _, _, _, _, _], box _ _ [_, _, _, _, _, _], box _ _ [_, _, _]] [_, _, _, _, _, _, _, _, _, _, _, _, _, _, _] rfl rfl rfl ?_
            refine JE_dropAt 3 ?_
            refine JE_norm _ [osl _ _ _ _ _ _, box _ _ [_, _, _, _, _, _], box _ _ [_, _, _, _, _, _]] [_, _, _, _, _, _, _, _, _, _, _, _, _, _, _] rfl rfl rfl ?_
            refine JE_dropAt 2 ?_
            refine JE_norm _ [osl _ _ _ _ _ _, box _ _ [_, _, _, _, _, _]] [_, _, _, _, _, _, _, _, _, _, _, _, _, _, _] rfl rfl rfl ?_
            refine JE_nextS (j + 1, r2, ad2_, cap2, n2) (by kernel_rfl) ?_ ?_ (by kernel_rfl) ?_
            · exact ⟨by omega, meetI_keep hr2 hlo hhi hle, hn2⟩
            · first | omega | (dsimp only; omega)
            · exact subset_app (subset_cons (by repeat (first | with_reducible exact mm0 | refine mmS ?_)) subset_nil) (ssS (ssS (ssS (ssS (ssS ss0)))))
        · obtain ⟨zh, hzzh⟩ : ∃ z : Fe, (l.getD i dS).hi = z := ⟨_, rfl⟩
          rw [hzzh]
          have hhi : (if (m.getD j dS).hi.q < (l.getD i dS).hi.q then (m.getD j dS).hi.q else (l.getD i dS).hi.q) = zh.q := by rw [if_neg (fun e => h39 (cmpQ_neg.2 e)), hzzh]
          have hqh : qs zh.q 3 := by rw [← hzzh]; exact hbi.2
          refine JL_done_up 55 [osl _ _ _ _ _ _, box _ _ [_, _, _, _, _, _], box _ _ [_, _, _, _, _, _], box _ _ [_, _, _], box _ _ [_, _, _]] [_, _, _, _, _, _, _, _, _, _, _, _, _, _, _] rfl rfl (by simp only [nrmF]; rfl) rfl rfl ?_
          refine JC_false rfl ?_
          refine JC_skip ?_
          refine JE_then ?_
          refine JC_seq ?_
          refine JC_region ?_
          refine JL_loadA (vs := [_, _, _]) 4 ty35 rfl rfl ⟨rfl, rfl, rfl, trivial⟩ ?_
          refine JL_loadA (vs := [_, _, _]) 3 ty35 rfl rfl ⟨rfl, rfl, rfl, trivial⟩ ?_
          refine JL_callF' (Asks.cons (by first | exact holds_of_mem (by repeat (first | with_reducible exact mm0 | refine mmS ?_)) | (exact holds_of_own 0 rfl)) (Asks.cons (by first | exact holds_of_mem (by repeat (first | with_reducible exact mm0 | refine mmS ?_)) | (exact holds_of_own 0 rfl)) (Asks.cons (by first | exact holds_of_mem (by repeat (first | with_reducible exact mm0 | refine mmS ?_)) | (exact holds_of_own 0 rfl)) (Asks.cons (by first | exact holds_of_mem (by repeat (first | with_reducible exact mm0 | refine mmS ?_)) | (exact holds_of_own 0 rfl)) Asks.nil)))) (fcmpq_con (FIn.some (hql.mono (by decide))) (FIn.some (hqh.mono (by decide)))) rfl ca23 ⟨rfl, rfl, rfl⟩ ?_
          rintro _ _ ⟨rfl, rfl⟩
          refine JL_leq rfl rfl ?_
          refine JL_split (fun h45 => ?_) (fun h45 => ?_)
          · have hle : zl.q ≤ zh.q := cmpQ_le.1 h45
            refine JL_done_up 55 [osl _ _ _ _ _ _, box _ _ [_, _, _, _, _, _], box _ _ [_, _, _, _, _, _], box _ _ [_, _, _], box _ _ [_, _, _]] [_, _, _, _, _, _, _, _, _, _, _, _, _, _, _] rfl rfl (by simp only [nrmF]; rfl) rfl rfl ?_
            refine JC_true rfl ?_
            refine JC_region ?_
            refine JL_move rfl ?_
            refine JL_loadA (vs := [_, _, _]) 4 ty35 rfl rfl ⟨rfl, rfl, rfl, trivial⟩ ?_
            refine JL_loadA (vs := [_, _, _]) 3 ty35 rfl rfl ⟨rfl, rfl, rfl, trivial⟩ ?_
            refine JL_build (cs := [_, _, _, _, _, _]) [(0, [_, _, _]), (1, [_, _, _])] st41 ⟨⟨rfl, _, rfl, rfl⟩, ⟨rfl, _, rfl, rfl⟩, rfl⟩ rfl ?_
            refine JL_buildN (cs0 := [.bool false, .slice none 0 0, .slice none 0 0, .bool false, .slice none 0 0, .slice none 0 0]) (cs := [_, _, _, _, _, _]) [(0, [_, _, _, _, _, _])] sl25 (by kernel_rfl) ⟨⟨rfl, _, rfl, rfl⟩, rfl⟩ rfl rfl rfl rfl (fun g50 => ?_)
            refine JL_append (news := [_, _, _, _, _, _]) 0 sl25 rfl (by decide) rfl rfl rfl rfl (Reads.own 5 rfl) (AllOne.cons rfl (AllOne.cons rfl (AllOne.cons rfl (AllOne.cons rfl (AllOne.cons rfl (AllOne.cons rfl AllOne.nil)))))) (by omega) (by omega) (fun ad51 cap51 hc51 => ?_)
            refine JL_dropAt 5 ?_
            refine JL_norm _ [osl _ _ _ _ _ _, box _ _ [_, _, _, _, _, _], box _ _ [_, _, _, _, _, _], box _ _ [_, _, _], box _ _ [_, _, _]] [_, _, _, _, _, _, _, _, _, _, _, _, _, _, _] rfl rfl rfl ?_
            rw [show scells r2 ++ sc ⟨zl, zh⟩ = scells (r2 ++ [⟨zl, zh⟩]) from scells_snoc r2 _]
            refine JL_sesSnoc (f := true) (l := r2) ⟨zl, zh⟩ (by repeat (first | with_reducible exact mm0 | refine mmS ?_)) (by repeat (first | with_reducible exact mm0 | refine mmS ?_)) (by repeat (first | with_reducible exact mm0 | refine mmS ?_)) (by repeat (first | with_reducible exact mm0 | refine mmS ?_)) (by repeat (first | with_reducible exact mm0 | refine mmS ?_)) ?_
            refine JL_assign rfl ?_
            refine JL_nil_up 55 [osl _ _ _ _ _ _, box _ _ [_, _, _, _, _, _], box _ _ [_, _, _, _, _, _], box _ _ [_, _, _], box _ _ [_, _, _]] [_, _, _, _, _, _, _, _, _, _, _, _, _, _, _, _] rfl rfl (by simp only [nrmF]; rfl) rfl rfl ?_
            refine JE_block_normal ?_
            refine JE_then ?_
            subst hzzl
            subst hzzh
            refine JC_region ?_
            refine JL_add_to rfl rfl (IntWalk.i64_in _ (by omega)) ?_
            refine JL_move rfl ?_
            refine JL_nil_up 55 [osl _ _ _ _ _ _, box _ _ [_, _, _, _, _, _], box _ _ [_, _, _, _, _, _], box _ _ [_, _, _], box _ _ [_, _, _]] [_, _, _, _, _, _, _, _, _, _, _, _, _, _, _, _] rfl rfl (by simp only [nrmF]; rfl) rfl rfl ?_
            refine JE_dropAt 4 ?_
            refine JE_norm _ [osl _ _ _ _ _ _, box _ _ [_, _, _, _, _, _], box _ _ [_, _, _, _, _, _], box _ _ [_, _, _]] [_, _, _, _, _, _, _, _, _, _, _, _, _, _, _, _] rfl rfl rfl ?_
            refine JE_dropAt 3 ?_
            refine JE_norm _ [osl _ _ _ _ _ _, box _ _ [_, _, _, _, _, _], box _ _ [_, _, _, _, _, _]] [_, _, _, _, _, _, _, _, _, _, _, _, _, _, _, _] rfl rfl rfl ?_
            refine JE_dropAt 2 ?_
            refine JE_norm _ [osl _ _ _ _ _ _, box _ _ [_, _, _, _, _, _]] [_, _, _, _, _, _, _, _, _, _, _, _, _, _, _, _] rfl rfl rfl ?_
            refine JE_nextS (j + 1, r2 ++ [⟨(l.getD i dS).lo, (l.getD i dS).hi⟩], ad51, cap51, n2 + 1) (by kernel_rfl) ?_ ?_ (by kernel_rfl) ?_
            · exact ⟨by omega, meetI_add hr2 hlo hhi hle, by rw [List.length_append, hn2]; rfl⟩
            · first | omega | (dsimp only; omega)
            · exact subset_app (subset_cons (by repeat (first | with_reducible exact mm0 | refine mmS ?_)) subset_nil) (ssS (ssS (ssS (ssS (ssS (ssS ss0))))))
          · have hle : ¬ zl.q ≤ zh.q := fun e => h45 (cmpQ_le.2 e)
            refine JL_done_up 55 [osl _ _ _ _ _ _, box _ _ [_, _, _, _, _, _], box _ _ [_, _, _, _, _, _], box _ _ [_, _, _], box _ _ [_, _, _]] [_, _, _, _, _, _, _, _, _, _, _, _, _, _, _] rfl rfl (by simp only [nrmF]; rfl) rfl rfl ?_
            refine JC_false rfl ?_
            refine JC_skip ?_
            refine JE_block_normal ?_
            refine JE_then ?_
            subst hzzl
            subst hzzh
            refine JC_region ?_
            refine JL_add_to rfl rfl (IntWalk.i64_in _ (by omega)) ?_
            refine JL_move rfl ?_
            refine JL_nil_up 55 [osl _ _ _ _ _ _, box _ _ [_, _, _, _, _, _], box _ _ [_, _, _, _, _, _], box _ _ [_, _, _], box _ _ [_, _, _]] [_, _, _, _, _, _, _, _, _, _, _, _, _, _, _] rfl rfl (by simp only [nrmF]; rfl) rfl rfl ?_
            refine JE_dropAt 4 ?_
            refine JE_norm _ [osl _ _ _ _ _ _, box _ _ [_, _, _, _, _, _], box _ _ [_, _, _, _, _, _], box _ _ [_, _, _]] [_, _, _, _, _, _, _, _, _, _, _, _, _, _, _] rfl rfl rfl ?_
            refine JE_dropAt 3 ?_
            refine JE_norm _ [osl _ _ _ _ _ _, box _ _ [_, _, _, _, _, _], box _ _ [_, _, _, _, _, _]] [_, _, _, _, _, _, _, _, _, _, _, _, _, _, _] rfl rfl rfl ?_
            refine JE_dropAt 2 ?_
            refine JE_norm _ [osl _ _ _ _ _ _, box _ _ [_, _, _, _, _, _]] [_, _, _, _, _, _, _, _, _, _, _, _, _, _, _] rfl rfl rfl ?_
            refine JE_nextS (j + 1, r2, ad2_, cap2, n2) (by kernel_rfl) ?_ ?_ (by kernel_rfl) ?_
            · exact ⟨by omega, meetI_keep hr2 hlo hhi hle, hn2⟩
            · first | omega | (dsimp only; omega)
            · exact subset_app (subset_cons (by repeat (first | with_reducible exact mm0 | refine mmS ?_)) subset_nil) (ssS (ssS (ssS (ssS (ssS ss0)))))
    · refine JL_done_up 55 [osl _ _ _ _ _ _, box _ _ [_, _, _, _, _, _]] [_, _, _, _, _, _, _, _, _, _, _] rfl rfl (by simp only [nrmF]; rfl) rfl rfl ?_
      refine JC_seq ?_
      refine JC_false rfl ?_
      refine JC_exit ?_
      refine JE_then_exit ?_
      refine JE_nextS_exit ?_
      refine JE_block_exit ?_
      refine JE_block_normal ?_
      refine JE_then ?_
      refine JC_region ?_
      refine JL_add_to rfl rfl (IntWalk.i64_in _ (by omega)) ?_
      refine JL_move rfl ?_
      refine JL_nil_up 55 [osl _ _ _ _ _ _, box _ _ [_, _, _, _, _, _]] [_, _, _, _, _, _, _, _, _, _, _] rfl rfl (by simp only [nrmF]; rfl) rfl rfl ?_
      refine JE_dropAt 1 ?_
      refine JE_norm _ [osl _ _ _ _ _ _] [_, _, _, _, _, _, _, _, _, _, _] rfl rfl rfl ?_
      refine JE_nextS (i + 1, r2, ad2_, cap2, n2) (by kernel_rfl) ?_ ?_ (by kernel_rfl) ?_
      · exact ⟨by omega, by rw [hr2, show j = (m.map Se.qq).length from by rw [List.length_map]; omega]; rfl, hn2⟩
      · first | omega | (dsimp only; omega)
      · exact subset_app (subset_cons (by repeat (first | with_reducible exact mm0 | refine mmS ?_)) subset_nil) (ssS (ssS (ssS (ssS (ssS (ssS ss0))))))
  · refine JL_done_up 55 [osl _ _ _ _ _ _] [_, _, _, _, _, _] rfl rfl (by simp only [nrmF]; rfl) rfl rfl ?_
    refine JC_seq ?_
    refine JC_false rfl ?_
    refine JC_exit ?_
    refine JE_then_exit ?_
    refine JE_nextS_exit ?_
    refine JE_block_exit ?_
    refine JE_then ?_
    refine JC_seq ?_
    refine JC_region ?_
    refine JL_move rfl ?_
    refine JL_assign rfl ?_
    refine JL_done_up 55 [osl _ _ _ _ _ _] [_, _, _, _, _, _] rfl rfl (by simp only [nrmF]; rfl) rfl rfl ?_
    refine JC_ret ?_
    have hie : i = l.length := by omega
    subst hie
    subst hn
    refine JE_give 0 rfl ?_
    refine JE_norm _ [] [_, _, _, _, _, _, _] rfl rfl rfl ?_
    refine JE_ret (vs := [_]) [vCells ad (scells r), vSes r] Tryd.results50 ⟨rfl, rfl⟩ ?_ ?_
    · exact ⟨ad, cap, r, rfl, hr, rfl⟩
    · exact (all_cons (by repeat (first | with_reducible exact mm0 | refine mmS ?_)) (all_cons (by repeat (first | with_reducible exact mm0 | refine mmS ?_)) all_nil))

end Go.Fw.K
