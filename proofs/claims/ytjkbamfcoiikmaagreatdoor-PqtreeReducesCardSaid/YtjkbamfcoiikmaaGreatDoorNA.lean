/- Walks through functions of the given program: each meets its contract. (Printed by a program of this repo.) -/
import Derived.Test.YtjkbamfcoiikmaaGreatDoorRfA
import Derived.Test.YtjkbamfcoiikmaaGreatDoorPqZu
import Derived.Test.YtjkbamfcoiikmaaGreatDoorPqVW
import Derived.Test.YtjkbamfcoiikmaaGreatDoorFwTW
import Derived.Test.YtjkbamfcoiikmaaGreatDoorProg
namespace Go.Fw.NA
open Go Go.RowKit Go.Proofs Go.Nat9 Go.Fw
attribute [local irreducible] JC JL JE
theorem ca102 : callable Tryz.prog 102 = true := by kernel_rfl
theorem ca103 : callable Tryz.prog 103 = true := by kernel_rfl
theorem ca119 : callable Tryz.prog 119 = true := by kernel_rfl
theorem ca36 : callable Tryz.prog 36 = true := by kernel_rfl
theorem ca56 : callable Tryz.prog 56 = true := by kernel_rfl
theorem ca67 : callable Tryz.prog 67 = true := by kernel_rfl
theorem ca68 : callable Tryz.prog 68 = true := by kernel_rfl
theorem ca78 : callable Tryz.prog 78 = true := by kernel_rfl
theorem fo66_0 : fOf Tryz.prog 66 0 = some 0 := by kernel_rfl
theorem fo66_1 : fOf Tryz.prog 66 1 = some 1 := by kernel_rfl
theorem fo66_2 : fOf Tryz.prog 66 2 = some 2 := by kernel_rfl
theorem mixed : Tryz.prog.follows .mixedOrders = true := by kernel_rfl
theorem sl32 : slOf Tryz.prog 32 = some (3, 1, 8, [.int .i64 0]) := by kernel_rfl
theorem sl64 : slOf Tryz.prog 64 = some (66, 3, 40, [.int .i64 0, .int .i64 0, .slice none 0 0]) := by kernel_rfl
theorem st66 : stOf Tryz.prog 66 = some ([(0, 1), (1, 1), (2, 1)], [.int .i64 0, .int .i64 0, .slice none 0 0]) := by kernel_rfl
theorem ty3 : tyOf Tryz.prog 3 = some (false, 1) := by kernel_rfl
theorem ty64 : tyOf Tryz.prog 64 = some (false, 1) := by kernel_rfl
theorem ty66 : tyOf Tryz.prog 66 = some (true, 3) := by kernel_rfl
theorem z66 : zeroOf Tryz.prog 66 = some [.int .i64 0, .int .i64 0, .slice none 0 0] := by kernel_rfl
end Go.Fw.NA
namespace Go.Fw.K
open Go Go.RowKit Go.Proofs Go.Nat9 Go.Fw Go.Fw.NA
attribute [local irreducible] JC JL JE

open Go.Fw.Pq
theorem rhas_con {ad : Option Addr} {c : Nat} {L : List Int} {x : Int} (hln : L.length ≤ 1000000) :
    ConF Tryz.prog 56 [.slice ad L.length c, .int .i64 x] [vCells ad (i64s L)]
      (fun v φo => v = .bool (decide (x ∈ L)) ∧ φo = []) := by
 refine ConF_of Tryz.func56 rfl 18 (_ :: _ :: rp 16) rfl rfl ?_; intro w0; refine JC_st [] [_] ?_; refine JC_sr ?_; refine JL_a ?_; refine JL_dv 18 ?_; refine JC_seq ?_; refine JC_sr ?_; refine JL_a ?_; refine JL_dv 18 ?_; refine JC_block ?_; refine JC_loopS ((Nat)) (fun (k : Nat) => k ≤ L.length ∧ ∀ j, j < k → L.getD j 0 ≠ x) (fun (k : Nat) => L.length - k) (fun u (k : Nat) => (rn 4 (some (u 4) :: some (.int .i64 (k : Nat)) :: sc u 6 12 []))) (fun (k : Nat) => []) (fun (k : Nat) => []) (0) kr ?_ kr ?_ ?_
 · exact ⟨Nat.zero_le _, fun j hj => absurd hj (Nat.not_lt_zero j)⟩
 · exact subset_nil
 intro u k hC; obtain ⟨hk, hj⟩ := hC; refine JC_nm 18 [] [_] ?_; refine JC_seq ?_; refine JC_sr ?_; refine JL_m ?_; refine JL_m ?_; refine JL_len sl32 rfl ?_; refine JL_lss rfl rfl ?_; refine JL_split (fun h9 => ?_) (fun h9 => ?_)
 ·refine JL_dv 18 ?_; refine JC_true rfl ?_; refine JC_skip ?_; refine JE_then ?_; refine JC_seq ?_; refine JC_block ?_; refine JC_sr ?_; refine JL_m ?_; refine JL_m ?_; refine JL_idx k sl32 rfl rfl rfl om rdg lno ?_; refine JL_loadE ty3 rfl rdg (i64s_get om) ?_; refine JL_m ?_; refine JL_eql rfl rfl ?_; refine JL_split (fun h17 => ?_) (fun h17 => ?_)
  ·refine JL_dv 18 ?_; refine JC_true rfl ?_; refine JC_sr ?_; refine JL_a ?_; refine JL_dv 18 ?_; refine JC_ret ?_; refine JE_block_ret ?_; refine JE_then_ret ?_; refine JE_nextS_ret ?_; refine JE_block_ret ?_; refine JE_then_ret ?_; refine JE_ret (vs := [_]) [] Tryz.results56 ⟨rfl, rfl⟩ ?_ ?_
   · rw [decide_eq_true (p := x ∈ L) (h17 ▸ getI_in om)]; exact ⟨rfl, rfl⟩
   · exact all_nil
  ·refine JL_dv 18 ?_; refine JC_false rfl ?_; refine JC_skip ?_; refine JE_block_normal ?_; refine JE_then ?_; refine JC_region ?_; refine JL_m ?_; refine JL_add_to rfl rfl i6o ?_; refine JL_a ?_; refine JL_nv 18 ?_; refine JE_nextS (k + 1) kr ?_ ?_ kr ?_
   · exact ⟨by omega, fun j hj2 => by
     by_cases h : j = k
     · subst h; exact h17
     · exact hj j om⟩
   · first | omega | (dsimp only; omega)
   · exact subset_app subset_nil ss0
 ·refine JL_dv 18 ?_; refine JC_false rfl ?_; refine JC_exit ?_; refine JE_then_exit ?_; refine JE_nextS_exit ?_; refine JE_block_exit ?_; refine JE_then ?_; refine JC_sr ?_; refine JL_a ?_; refine JL_dv 18 ?_; refine JC_ret ?_; refine JE_ret (vs := [_]) [] Tryz.results56 ⟨rfl, rfl⟩ ?_ ?_
  · rw [decide_eq_false (p := x ∈ L) (getI_out (fun j h => hj j om))]; exact ⟨rfl, rfl⟩
  · exact all_nil

set_option maxHeartbeats 1000000 in
theorem rcount_con0 {adr : Option Addr} {cr : Nat} {R : List Int} (hR : R.length ≤ 1000) (t : AT) (hf : Fit t) (hL : (lvs (er t)).length ≤ 1000) 
    (IH : ∀ k ∈ t.kids, ConF Tryz.prog 68 [nval k, .slice adr R.length cr] [vCells adr (i64s R), vN k] (fun v φo => v = .tuple #[.int .i64 ((lvs (er (k))).length : Nat), .int .i64 (cS (inI R) (er (k)) : Nat)] ∧ φo = [])) :
    ConF Tryz.prog 68 [nval t, .slice adr R.length cr] [vCells adr (i64s R), vN t]
      (fun v φo => v = .tuple #[.int .i64 ((lvs (er (t))).length : Nat), .int .i64 (cS (inI R) (er (t)) : Nat)] ∧ φo = []) := by
 refine ConF_of Tryz.func68 rfl 43 (_ :: _ :: rp 41) rfl rfl ?_; intro w0; refine JC_st [] [_, _] ?_; refine JC_sr ?_; refine JL_box rfl rfl (fun b2 => ?_); refine JL_a ?_; refine JL_a ?_; refine JL_du 43 [box _ _ [_, _, _]] [_, _] ?_; refine JC_seq ?_; refine JC_seq ?_; refine JC_nOpen (f := false) (t := t) am ?_; refine JC_region ?_; refine JL_fieldAddr fo66_0 rfl ?_; refine JL_load 0 ty3 rfl rfl rfl ?_; refine JL_eql rfl rfl ?_; refine JL_split (fun h13 => ?_) (fun h13 => ?_)
 ·refine JL_dv 43 ?_; refine JC_true rfl ?_; refine JC_seq ?_; refine JC_sr ?_; refine JL_m ?_; refine JL_fieldAddr fo66_1 rfl ?_; refine JL_load 0 ty3 rfl rfl rfl ?_; refine JL_callF' (Asks.cons (holds_of_mem am) Asks.nil) (rhas_con om) rfl ca56 ⟨rfl, rfl, rfl⟩ ?_; rintro _ _ ⟨rfl, rfl⟩; refine JL_split (fun h17 => ?_) (fun h17 => ?_)
  ·refine JL_du 43 [box _ _ [_, _, _]] [_, _, _, _] ?_; refine JC_true rfl ?_; refine JC_sr ?_; refine JL_a ?_; refine JL_a ?_; refine JL_dv 43 ?_; refine JC_ret ?_; refine JE_then_ret ?_; refine JE_then_ret ?_; refine JE_ret (vs := [_, _]) [] Tryz.results68 ⟨rfl, rfl, rfl⟩ ?_ ?_
   · rw [(cnt_in (S := (inI R)) (kd_zero.1 h13) (decide_eq_true h17)).1, (cnt_in (S := (inI R)) (kd_zero.1 h13) (decide_eq_true h17)).2]; exact ⟨rfl, rfl⟩
   · exact all_nil
  ·refine JL_du 43 [box _ _ [_, _, _]] [_, _, _, _] ?_; refine JC_false rfl ?_; refine JC_skip ?_; refine JE_then ?_; refine JC_sr ?_; refine JL_a ?_; refine JL_a ?_; refine JL_dv 43 ?_; refine JC_ret ?_; refine JE_then_ret ?_; refine JE_ret (vs := [_, _]) [] Tryz.results68 ⟨rfl, rfl, rfl⟩ ?_ ?_
   · rw [(cnt_out (S := (inI R)) (kd_zero.1 h13) (decide_eq_false h17)).1, (cnt_out (S := (inI R)) (kd_zero.1 h13) (decide_eq_false h17)).2]; exact ⟨rfl, rfl⟩
   · exact all_nil
 ·refine JL_dv 43 ?_; refine JC_false rfl ?_; refine JC_skip ?_; refine JE_then ?_; refine JC_seq ?_
  have hk0 : t.kids.length ≠ 0 := fun e => h13 (kd_zero.2 e)
  have hN := nA_kn hk0
  have hln := fitL hf
  refine JC_region ?_; refine JL_a ?_; refine JL_a ?_; refine JL_dv 43 ?_; refine JC_seq ?_; refine JC_sr ?_; refine JL_a ?_; refine JL_dv 43 ?_; refine JC_block ?_; refine JC_loopS ((Nat) × (Nat) × (Nat)) (fun (i, a, m) => i ≤ t.kids.length ∧ a = nA (t.kids.take i) ∧ m = cL (inI R) ((t.kids.take i).map er)) (fun (i, a, m) => t.kids.length - i) (fun u (i, a, m) => (rn 6 (some (.int .i64 (a : Nat)) :: some (.int .i64 (m : Nat)) :: some (.int .i64 (i : Nat)) :: sc u 9 2 (rn 7 (sc u 18 23 []))))) (fun (i, a, m) => []) (fun (i, a, m) => []) (0, 0, 0) kr ?_ kr ?_ ?_
  · exact ⟨Nat.zero_le _, by rw [List.take_zero]; rfl, by rw [List.take_zero]; rfl⟩
  · exact subset_nil
  intro u i hC; obtain ⟨i, a, m⟩ := i; obtain ⟨hi, ha, hm⟩ := hC; refine JC_nm 43 [box _ _ [_, _, _]] [_, _, _, _] ?_; refine JC_seq ?_; refine JC_sr ?_; refine JL_m ?_; refine JL_fieldAddr fo66_2 rfl ?_; refine JL_load 0 ty64 rfl rfl rfl ?_; refine JL_len sl64 rfl ?_; refine JL_lss rfl rfl ?_; refine JL_split (fun h22 => ?_) (fun h22 => ?_)
  ·refine JL_dv 43 ?_; refine JC_true rfl ?_; refine JC_skip ?_; refine JE_then ?_; refine JC_seq ?_; refine JC_block ?_; refine JC_sr ?_; refine JL_fieldAddr fo66_2 rfl ?_; refine JL_load 0 ty64 rfl rfl rfl ?_; refine JL_m ?_; refine JL_indexAddr i sl64 rfl rfl rfl om rdg (by rw [ncL_len]; omega) ?_; refine JL_loadEA (vs := [_, _, _]) ty66 zp rfl rdg (ncL_getA om) ?_; refine JL_m ?_; refine JL_callF' (Asks.cons (holds_of_mem am) (Asks.cons (holds_of_mem am) Asks.nil)) (conN1 (IH (t.kids.getD i default) (at_mem (l := t.kids) (i := i) om)) (at_mem (l := t.kids) (i := i) om)) rfl ca68 ⟨rfl, rfl, rfl⟩ ?_; rintro _ _ ⟨rfl, rfl⟩; refine JL_m ?_; refine JL_extract (v := .int .i64 ((lvs (er (t.kids.getD i default))).length : Nat)) rfl rfl ?_; refine JL_extract (v := .int .i64 (cS (inI R) (er (t.kids.getD i default)) : Nat)) rfl rfl ?_; refine JL_a ?_; refine JL_a ?_; refine JL_du 43 [box _ _ [_, _, _]] [_, _, _, _] ?_; refine JC_seq ?_
   have hb1 := nA_le t.kids (i + 1)
   rw [nA_take om, ← ha] at hb1
   have hb2 := cS_le (S := (inI R)) (er (t.kids.getD i default))
   have hb3 := cL_le (S := (inI R)) ((t.kids.take i).map er)
   have hb4 : m ≤ a := by rw [hm, ha]; exact hb3
   refine JC_region ?_; refine JL_m ?_; refine JL_m ?_; refine JL_add_to rfl rfl i6o ?_; refine JL_a ?_; refine JL_dv 43 ?_; refine JC_region ?_; refine JL_m ?_; refine JL_m ?_; refine JL_add_to rfl rfl i6o ?_; refine JL_a ?_; refine JL_nv 43 ?_; refine JE_block_normal ?_; refine JE_then ?_; refine JC_region ?_; refine JL_m ?_; refine JL_add_to rfl rfl i6o ?_; refine JL_a ?_; refine JL_nv 43 ?_; refine JE_nextS (i + 1, a + (lvs (er (t.kids.getD i default))).length, m + cS (inI R) (er (t.kids.getD i default))) kr ?_ ?_ kr ?_
   · exact ⟨by omega, by rw [ha, nA_take om], by rw [hm, cL_take om]⟩
   · first | omega | (dsimp only; omega)
   · exact subset_app subset_nil ss0
  ·refine JL_dv 43 ?_; refine JC_false rfl ?_; refine JC_exit ?_; refine JE_then_exit ?_; refine JE_nextS_exit ?_; refine JE_block_exit ?_; refine JE_then ?_; refine JC_sr ?_; refine JL_m ?_; refine JL_m ?_; refine JL_a ?_; refine JL_a ?_; refine JL_dv 43 ?_; refine JC_ret ?_; refine JE_ret (vs := [_, _]) [] Tryz.results68 ⟨rfl, rfl, rfl⟩ ?_ ?_
   · rw [hN, cS_kn hk0, ha, hm, List.take_of_length_le (show t.kids.length ≤ i by omega)]; exact ⟨rfl, rfl⟩
   · exact all_nil

theorem rcount_con {adr : Option Addr} {cr : Nat} {R : List Int} (hR : R.length ≤ 1000) (t : AT) : Fit t → (lvs (er t)).length ≤ 1000 → ConF Tryz.prog 68 [nval t, .slice adr R.length cr] [vCells adr (i64s R), vN t] (fun v φo => v = .tuple #[.int .i64 ((lvs (er (t))).length : Nat), .int .i64 (cS (inI R) (er (t)) : Nat)] ∧ φo = []) := by
  induction t using AT.indP with
  | h t ih => exact fun hf hL => rcount_con0 hR t hf hL fun k hk => ih k hk (fitK hf k hk) (by
      have h1 : t.kids.length ≠ 0 := fun e => by rw [List.length_eq_zero_iff.1 e] at hk; cases hk
      rw [nA_kn h1] at hL
      have := nA_mem hk
      omega)

theorem rstate_con {adr : Option Addr} {cr : Nat} {R : List Int} (hR : R.length ≤ 1000) (t : AT) (hf : Fit t) (hL : (lvs (er t)).length ≤ 1000)  :
    ConF Tryz.prog 67 [nval t, .slice adr R.length cr] [vCells adr (i64s R), vN t]
      (fun v φo => v = .int .i64 (st (inI R) (er (t)) : Nat) ∧ φo = []) := by
 have hcs := st_cnt (S := (inI R)) hf.ok
 refine ConF_of Tryz.func67 rfl 19 (_ :: _ :: rp 17) rfl rfl ?_; intro w0; refine JC_st [] [_, _] ?_; refine JC_sr ?_; refine JL_box rfl rfl (fun b2 => ?_); refine JL_a ?_; refine JL_du 19 [box _ _ [_, _, _]] [_, _] ?_; refine JC_sr ?_; refine JL_loadA (vs := [_, _, _]) 0 ty66 rfl rfl ⟨rfl, rfl, rfl, trivial⟩ ?_; refine JL_m ?_; refine JL_callF' (Asks.cons (holds_of_mem am) (Asks.cons (holds_of_mem am) Asks.nil)) (rcount_con hR t hf hL) rfl ca68 ⟨rfl, rfl, rfl⟩ ?_; rintro _ _ ⟨rfl, rfl⟩; refine JL_m ?_; refine JL_extract (v := .int .i64 ((lvs (er t)).length : Nat)) rfl rfl ?_; refine JL_extract (v := .int .i64 (cS (inI R) (er t) : Nat)) rfl rfl ?_; refine JL_a ?_; refine JL_a ?_; refine JL_du 19 [box _ _ [_, _, _]] [_, _] ?_; refine JC_seq ?_; refine JC_sr ?_; refine JL_m ?_; refine JL_dv 19 ?_; refine JC_block ?_; refine JC_sr ?_; refine JL_eql rfl rfl ?_; refine JL_split (fun h15 => ?_) (fun h15 => ?_)
 ·refine JL_a ?_; refine JL_dv 19 ?_; refine JC_true rfl ?_; refine JC_sr ?_; refine JL_a ?_; refine JL_dv 19 ?_; refine JC_ret ?_; refine JE_block_ret ?_; refine JE_then_ret ?_; refine JE_ret (vs := [_]) [] Tryz.results67 ⟨rfl, rfl⟩ ?_ ?_
  · rw [hcs, if_pos om]; exact ⟨rfl, rfl⟩
  · exact all_nil
 ·refine JL_a ?_; refine JL_dv 19 ?_; refine JC_false rfl ?_; refine JC_sr ?_; refine JL_m ?_; refine JL_eql rfl rfl ?_; refine JL_split (fun h18 => ?_) (fun h18 => ?_)
  ·refine JL_a ?_; refine JL_dv 19 ?_; refine JC_true rfl ?_; refine JC_sr ?_; refine JL_a ?_; refine JL_dv 19 ?_; refine JC_ret ?_; refine JE_block_ret ?_; refine JE_then_ret ?_; refine JE_ret (vs := [_]) [] Tryz.results67 ⟨rfl, rfl⟩ ?_ ?_
   · rw [hcs, if_neg om, if_pos om]; exact ⟨rfl, rfl⟩
   · exact all_nil
  ·refine JL_a ?_; refine JL_dv 19 ?_; refine JC_false rfl ?_; refine JC_skip ?_; refine JE_block_normal ?_; refine JE_then ?_; refine JC_sr ?_; refine JL_a ?_; refine JL_dv 19 ?_; refine JC_ret ?_; refine JE_ret (vs := [_]) [] Tryz.results67 ⟨rfl, rfl⟩ ?_ ?_
   · rw [hcs, if_neg om, if_neg om]; exact ⟨rfl, rfl⟩
   · exact all_nil

theorem rturn_con {ad : Option Addr} {c : Nat} {ks : List AT} (hl : ks.length ≤ 1000) :
    ConA Tryz.prog 78 [.slice ad ks.length c] [vCells ad (ncL ks)]
      (fun v φo => ∃ (ad3 : Option Addr) (c3 : Nat), v = .slice ad3 ks.reverse.length c3 ∧ (ks.reverse.length ≤ c3 ∧ c3 ≤ 9223372036854775807) ∧ φo = [vCells ad3 (ncL ks.reverse)]) := by
 have hrl : ks.reverse.length = ks.length := List.length_reverse
 refine ConA_of Tryz.func78 rfl 20 (_ :: rp 19) rfl rfl ?_; intro w0; refine JC_st [] [_] ?_; refine JC_sr ?_; refine JL_a ?_; refine JL_dv 20 ?_; refine JC_sr ?_; refine JL_a ?_; refine JL_dv 20 ?_; refine JC_seq ?_; refine JC_sr ?_; refine JL_m ?_; refine JL_len sl64 rfl ?_; refine JL_sub_to rfl rfl i6o ?_; rw [show ((ks.length : Int) - 1 : Int) = (ks.length : Int) - 1 - ((0 : Nat) : Int) from by omega]; refine JL_a ?_; refine JL_dv 20 ?_; refine JC_block ?_; refine JC_addNil 66 3 ?_; refine JC_nw [osl _ _ _ _ _ _] [_] ?_; refine JC_loopS ((Nat) × (Option Addr) × (Nat)) (fun (j, ad3, c3) => j ≤ ks.length ∧ (j ≤ c3 ∧ c3 ≤ 9223372036854775807)) (fun (j, ad3, c3) => ks.length - j) (fun u (j, ad3, c3) => (rn 3 (some (.slice ad3 j c3) :: some (.int .i64 ((ks.length : Int) - 1 - (j : Nat))) :: rn 3 (sc u 8 11 [])))) (fun (j, ad3, c3) => [some (osl ad3 j c3 66 3 (ncL (ks.reverse.take j)))]) (fun (j, ad3, c3) => []) (0, none, 0) kr ?_ kr ?_ ?_
 · exact ⟨Nat.zero_le _, Nat.le_refl _, by omega⟩
 · exact subset_nil
 intro u i hC; obtain ⟨j, ad3, c3⟩ := i; obtain ⟨hj, hc3⟩ := hC; refine JC_nm 20 [osl _ _ _ _ _ _] [_] ?_; refine JC_seq ?_; refine JC_sr ?_; refine JL_m ?_; refine JL_geq rfl rfl ?_; refine JL_split (fun h9 => ?_) (fun h9 => ?_)
 ·refine JL_dv 20 ?_; refine JC_true rfl ?_; refine JC_skip ?_; refine JE_then ?_; refine JC_seq ?_; refine JC_block ?_; refine JC_region ?_; refine JL_m ?_; refine JL_m ?_; refine JL_m ?_; refine JL_indexAddr (ks.length - 1 - j) sl64 rfl rfl om om rdg (by rw [ncL_len]; omega) ?_; refine JL_loadEA (vs := [_, _, _]) ty66 zp rfl rdg (ncL_getA om) ?_; refine JL_buildN (cs0 := [.int .i64 0, .int .i64 0, .slice none 0 0]) (cs := [_, _, _]) [(0, [_, _, _])] sl64 kr ⟨⟨rfl, _, rfl, rfl⟩, rfl⟩ rfl rfl rfl rfl (fun g17 => ?_); refine JL_append (news := nc (ks.getD (ks.length - 1 - j) default)) 0 sl64 rfl (by decide) rfl rfl rfl rfl (Reads.own 1 rfl) (nc_one _) om om (fun ad18 cap18 hc18 => ?_); refine JL_dropAt 1 ?_; refine JL_norm _ [osl _ _ _ _ _ _] [_] rfl rfl rfl ?_; rw [ncL_snoc, ← rev_take om]; refine JL_a ?_; refine JL_nu 20 [osl _ _ _ _ _ _] [_] ?_; refine JE_block_normal ?_; refine JE_then ?_; refine JC_region ?_; refine JL_m ?_
  refine JL_sub_to rfl rfl i6o ?_; rw [show ((ks.length : Int) - 1 - (j : Nat) - 1 : Int) = (ks.length : Int) - 1 - ((j + 1 : Nat) : Int) from by omega]; refine JL_a ?_; refine JL_nv 20 ?_; refine JE_nextS (j + 1, ad18, cap18) kr ?_ ?_ kr ?_
  · exact ⟨by omega, by omega⟩
  · first | omega | (dsimp only; omega)
  · exact subset_app subset_nil ss0
 ·refine JL_dv 20 ?_; refine JC_false rfl ?_; refine JC_exit ?_; refine JE_then_exit ?_; refine JE_nextS_exit ?_; refine JE_block_exit ?_; refine JE_then ?_; refine JC_sr ?_; refine JL_m ?_; refine JL_a ?_; refine JL_dv 20 ?_; refine JC_ret ?_; obtain rfl : j = ks.length := by omega
  rw [List.take_of_length_le (Nat.le_of_eq hrl)]; refine JE_give 0 rfl ?_; refine JE_norm _ [] [_, _] rfl rfl rfl ?_; refine JE_ret (vs := [_]) [vCells ad3 (ncL ks.reverse)] Tryz.results78 ⟨rfl, rfl⟩ ?_ ?_
  · exact ⟨ad3, c3, by rw [hrl]; rfl, by rw [hrl]; exact hc3, rfl⟩
  · exact (all_cons am all_nil)

set_option maxHeartbeats 1000000 in
theorem rord_con {adr : Option Addr} {cr : Nat} {R : List Int} (hR : R.length ≤ 1000) {ad : Option Addr} {c : Nat} {ks : List AT} (hk : ∀ k ∈ ks, Fit k) (hN : nA ks ≤ 1000) :
    ConF Tryz.prog 119 [.slice ad ks.length c, .slice adr R.length cr] [vCells adr (i64s R), vCells ad (ncL ks), vNs ks]
      (fun v φo => v = .bool (decide (ordR (inI R) ks)) ∧ φo = []) := by
 have hlk := nA_ge hk
 refine ConF_of Tryz.func119 rfl 38 (_ :: _ :: rp 36) rfl rfl ?_; intro w0; refine JC_st [] [_, _, _] ?_; refine JC_sr ?_; refine JL_a ?_; refine JL_dv 38 ?_; refine JC_seq ?_; refine JC_sr ?_; refine JL_a ?_; refine JL_dv 38 ?_; refine JC_block ?_; refine JC_loopS ((Nat)) (fun (j : Nat) => j ≤ ks.length - 1 ∧ ∀ x, x < j → ¬ oR (inI R) ks x) (fun (j : Nat) => ks.length - 1 - j) (fun u (j : Nat) => (rn 4 (some (u 4) :: some (.int .i64 ((j + 1 : Nat) : Int)) :: sc u 6 32 []))) (fun (j : Nat) => []) (fun (j : Nat) => []) (0) kr ?_ kr ?_ ?_
 · exact ⟨Nat.zero_le _, fun j hj => absurd hj (Nat.not_lt_zero _)⟩
 · exact subset_nil
 intro u j hC; obtain ⟨hj, ho⟩ := hC; refine JC_nm 38 [] [_, _, _] ?_; refine JC_seq ?_; refine JC_sr ?_; refine JL_m ?_; refine JL_m ?_; refine JL_len sl64 rfl ?_; refine JL_lss rfl rfl ?_; refine JL_split (fun h11 => ?_) (fun h11 => ?_)
 ·refine JL_dv 38 ?_; refine JC_true rfl ?_; refine JC_skip ?_; refine JE_then ?_; refine JC_seq ?_; refine JC_block ?_; refine JC_seq ?_; refine JC_drawT mixed 12 [spV 14 [] _, spV 15 [] _, spV 16 [1] _, spV 17 [0, 2] _, spV 18 [3] _, spV 19 [] _, spC 20 [4, 5] _, spV 21 [] _, spV 22 [] _, spV 23 [7, 8] _, spV 24 [9] _, spV 25 [] _] ⟨oM, oM, OblS_V (fun vals ex ψ => (by refine JL_sub_to rfl rfl i6o ?_; rw [show (((j + 1 : Nat) : Int) - 1 : Int) = ((j : Nat) : Int) from by omega]; exact vz rfl)), OblS_V (fun vals ex ψ => (by refine JL_normQ _ (_ :: _ :: _ :: ψ) rfl rfl ?_; refine JL_indexAddr j sl64 rfl rfl rfl om rdg (by rw [ncL_len]; omega) ?_; exact vz rfl)), OblS_V (fun vals ex ψ => (by refine JL_normQ _ (_ :: _ :: _ :: ψ) rfl rfl ?_; refine JL_loadEA (vs := [_, _, _]) ty66 zp rfl rdg (ncL_getA om) ?_; exact vz rfl)), oM, OblS_C (fun vals ex ψ => (by refine JL_normQ ⟨38, [(14, _), (15, _), (16, _), (17, _), (18, _), (19, _), (20, _), (21, _), (22, _), (23, _), (24, _), (25, _)], _⟩ (_ :: _ :: _ :: ψ) rfl rfl ?_; refine JL_callF' (Asks.cons (holds_of_mem am) (Asks.cons (holds_of_mem am) Asks.nil)) (conN1 (rstate_con hR (ks.getD (j) default) (hk _ (at_mem (l := ks) (i := j) om)) (by have := nA_mem (at_mem (l := ks) (i := j) om); omega)) (at_mem (l := ks) (i := j) om)) rfl ca67 ⟨rfl, rfl, rfl⟩ ?_; exact fun v φo hP => JL_nil (JE_stepC φo rfl hP (fun p hp => mapB_l hp) (fun p hp => mapB_r (ss0 p hp))))), oM, oM, OblS_V (fun vals ex ψ => (by
    refine JL_normQ _ (_ :: _ :: _ :: ψ) rfl rfl ?_; refine JL_indexAddr (j + 1) sl64 rfl rfl rfl om rdg (by rw [ncL_len]; omega) ?_; exact vz rfl)), OblS_V (fun vals ex ψ => (by refine JL_normQ _ (_ :: _ :: _ :: ψ) rfl rfl ?_; refine JL_loadEA (vs := [_, _, _]) ty66 zp rfl rdg (ncL_getA om) ?_; exact vz rfl)), oM, trivial⟩ kr (fun vals bs => ?_)
  refine JL_normL [_, _, _] ⟨38, [(14, _), (15, _), (16, _), (17, _), (18, _), (19, _), (20, _), (21, _), (22, _), (23, _), (24, _), (25, _)], _⟩ [] [_, _, _, _] rfl rfl rfl rfl ?_; generalize vals (0 + 1 + 1 + 1 + 1 + 1 + 1) = x20; refine JL_usePost mm0 (fun φo hP => ?_); obtain ⟨rfl, rfl⟩ := hP; refine JL_norm _ [] [_, _, _, _] rfl rfl rfl ?_; refine JL_callF' (Asks.cons (holds_of_mem am) (Asks.cons (holds_of_mem am) Asks.nil)) (conN1 (rstate_con hR (ks.getD (j + 1) default) (hk _ (at_mem (l := ks) (i := j + 1) om)) (by have := nA_mem (at_mem (l := ks) (i := j + 1) om); omega)) (at_mem (l := ks) (i := j + 1) om)) rfl ca67 ⟨rfl, rfl, rfl⟩ ?_; rintro _ _ ⟨rfl, rfl⟩; refine JL_a ?_; refine JL_a ?_; refine JL_du 38 [] [_, _, _, _] ?_; refine JC_seq ?_
  rcases (by omega : ((st (inI R) (er (ks.getD j default)) : Nat) : Int) > ((st (inI R) (er (ks.getD (j + 1) default)) : Nat) : Int) ∨ (¬ (((st (inI R) (er (ks.getD j default)) : Nat) : Int) > ((st (inI R) (er (ks.getD (j + 1) default)) : Nat) : Int)) ∧ ((st (inI R) (er (ks.getD j default)) : Nat) : Int) = 1 ∧ ((st (inI R) (er (ks.getD (j + 1) default)) : Nat) : Int) = 1) ∨ (¬ (((st (inI R) (er (ks.getD j default)) : Nat) : Int) > ((st (inI R) (er (ks.getD (j + 1) default)) : Nat) : Int)) ∧ ((st (inI R) (er (ks.getD j default)) : Nat) : Int) = 1 ∧ ¬ ((st (inI R) (er (ks.getD (j + 1) default)) : Nat) : Int) = 1) ∨ (¬ (((st (inI R) (er (ks.getD j default)) : Nat) : Int) > ((st (inI R) (er (ks.getD (j + 1) default)) : Nat) : Int)) ∧ ¬ ((st (inI R) (er (ks.getD j default)) : Nat) : Int) = 1)) with hA | ⟨hA, hB, hD⟩ | ⟨hA, hB, hD⟩ | ⟨hA, hB⟩
  ·refine JC_region ?_; refine JL_m ?_; refine JL_m ?_; refine JL_gtr rfl rfl ?_; rw [decide_eq_true (p := ((st (inI R) (er (ks.getD j default)) : Nat) : Int) > ((st (inI R) (er (ks.getD (j + 1) default)) : Nat) : Int)) om]; refine JL_m ?_; refine JL_gn ?_; refine JL_gn ?_; refine JL_gn ?_; refine JL_guard_un rfl rfl ?_; refine JL_guard_un rfl rfl ?_; refine JL_gn ?_; refine JL_pick_t rfl rfl ?_; refine JL_dv 38 ?_; refine JC_true rfl ?_; refine JC_sr ?_; refine JL_a ?_; refine JL_dv 38 ?_; refine JC_ret ?_; refine JE_block_ret ?_; refine JE_then_ret ?_; refine JE_nextS_ret ?_; refine JE_block_ret ?_; refine JE_then_ret ?_; refine JE_ret (vs := [_]) [] Tryz.results119 ⟨rfl, rfl⟩ ?_ ?_
   · rw [decide_eq_false (p := ordR (inI R) ks) (fun h => h j om (by unfold oR; omega))]; exact ⟨rfl, rfl⟩
   · exact all_nil
  ·refine JC_region ?_; refine JL_m ?_; refine JL_m ?_; refine JL_gtr rfl rfl ?_; rw [decide_eq_false (p := ((st (inI R) (er (ks.getD j default)) : Nat) : Int) > ((st (inI R) (er (ks.getD (j + 1) default)) : Nat) : Int)) om]; refine JL_m ?_; refine JL_gy ?_; refine JL_m ?_; refine JL_gy ?_; refine JL_eql rfl rfl ?_; rw [decide_eq_true (p := ((st (inI R) (er (ks.getD j default)) : Nat) : Int) = 1) om]; refine JL_gy ?_; refine JL_m ?_; refine JL_gy ?_; refine JL_m ?_; refine JL_gy ?_; refine JL_eql rfl rfl ?_; rw [decide_eq_true (p := ((st (inI R) (er (ks.getD (j + 1) default)) : Nat) : Int) = 1) om]; refine JL_gy ?_; refine JL_pick_t rfl rfl ?_; refine JL_pick_f rfl rfl ?_; refine JL_dv 38 ?_; refine JC_true rfl ?_; refine JC_sr ?_; refine JL_a ?_; refine JL_dv 38 ?_; refine JC_ret ?_; refine JE_block_ret ?_; refine JE_then_ret ?_; refine JE_nextS_ret ?_; refine JE_block_ret ?_; refine JE_then_ret ?_; refine JE_ret (vs := [_]) [] Tryz.results119 ⟨rfl, rfl⟩ ?_ ?_
   · rw [decide_eq_false (p := ordR (inI R) ks) (fun h => h j om (by unfold oR; omega))]; exact ⟨rfl, rfl⟩
   · exact all_nil
  ·refine JC_region ?_; refine JL_m ?_; refine JL_m ?_; refine JL_gtr rfl rfl ?_; rw [decide_eq_false (p := ((st (inI R) (er (ks.getD j default)) : Nat) : Int) > ((st (inI R) (er (ks.getD (j + 1) default)) : Nat) : Int)) om]; refine JL_m ?_; refine JL_gy ?_; refine JL_m ?_; refine JL_gy ?_; refine JL_eql rfl rfl ?_; rw [decide_eq_true (p := ((st (inI R) (er (ks.getD j default)) : Nat) : Int) = 1) om]; refine JL_gy ?_; refine JL_m ?_; refine JL_gy ?_; refine JL_m ?_; refine JL_gy ?_; refine JL_eql rfl rfl ?_; rw [decide_eq_false (p := ((st (inI R) (er (ks.getD (j + 1) default)) : Nat) : Int) = 1) om]; refine JL_gy ?_; refine JL_pick_t rfl rfl ?_; refine JL_pick_f rfl rfl ?_; refine JL_dv 38 ?_; refine JC_false rfl ?_; refine JC_skip ?_; refine JE_block_normal ?_; refine JE_then ?_; refine JC_region ?_; refine JL_m ?_; refine JL_add_to rfl rfl i6o ?_; refine JL_a ?_; refine JL_nv 38 ?_; refine JE_nextS (j + 1) kr ?_ ?_ kr ?_
   · exact ⟨by omega, fun x hx => by
     rcases Nat.lt_or_ge x j with h | h
     · exact ho x h
     · obtain rfl : x = j := by omega
       unfold oR; omega⟩
   · first | omega | (dsimp only; omega)
   · exact subset_app subset_nil (ssS ss0)
  ·refine JC_region ?_; refine JL_m ?_; refine JL_m ?_; refine JL_gtr rfl rfl ?_; rw [decide_eq_false (p := ((st (inI R) (er (ks.getD j default)) : Nat) : Int) > ((st (inI R) (er (ks.getD (j + 1) default)) : Nat) : Int)) om]; refine JL_m ?_; refine JL_gy ?_; refine JL_m ?_; refine JL_gy ?_; refine JL_eql rfl rfl ?_; rw [decide_eq_false (p := ((st (inI R) (er (ks.getD j default)) : Nat) : Int) = 1) om]; refine JL_gy ?_; refine JL_m ?_; refine JL_gn ?_; refine JL_gn ?_; refine JL_gy ?_; refine JL_pick_f rfl rfl ?_; refine JL_pick_f rfl rfl ?_; refine JL_dv 38 ?_; refine JC_false rfl ?_; refine JC_skip ?_; refine JE_block_normal ?_; refine JE_then ?_; refine JC_region ?_; refine JL_m ?_; refine JL_add_to rfl rfl i6o ?_; refine JL_a ?_; refine JL_nv 38 ?_; refine JE_nextS (j + 1) kr ?_ ?_ kr ?_
   · exact ⟨by omega, fun x hx => by
     rcases Nat.lt_or_ge x j with h | h
     · exact ho x h
     · obtain rfl : x = j := by omega
       unfold oR; omega⟩
   · first | omega | (dsimp only; omega)
   · exact subset_app subset_nil (ssS ss0)
 ·refine JL_dv 38 ?_; refine JC_false rfl ?_; refine JC_exit ?_; refine JE_then_exit ?_; refine JE_nextS_exit ?_; refine JE_block_exit ?_; refine JE_then ?_; refine JC_sr ?_; refine JL_a ?_; refine JL_dv 38 ?_; refine JC_ret ?_; refine JE_ret (vs := [_]) [] Tryz.results119 ⟨rfl, rfl⟩ ?_ ?_
  · rw [decide_eq_true (p := ordR (inI R) ks) (fun x hx => ho x om)]; exact ⟨rfl, rfl⟩
  · exact all_nil

theorem rgroup_con {ad : Option Addr} {c : Nat} {ks : List AT} (hc : ks.length ≤ c) (hl : ks.length ≤ 1000) (h0 : 0 < ks.length) (hk : ∀ k ∈ ks, Fit k) :
    ConA Tryz.prog 36 [.slice ad ks.length c] [vCells ad (ncL ks), vNs ks]
      (fun v φo => ∃ t : AT, v = nval t ∧ φo = [vN t] ∧ Fit t ∧ grp (ks.map er) = [er t]) := by
 refine ConA_of Tryz.func36 rfl 11 (_ :: rp 10) rfl rfl ?_; intro w0; refine JC_st [] [_, _] ?_; refine JC_sr ?_; refine JL_alloc z66 (fun b2 => ?_); refine JL_du 11 [box _ _ [_, _, _]] [_, _] ?_; refine JC_seq ?_; refine JC_sr ?_; refine JL_m ?_; refine JL_len sl64 rfl ?_; refine JL_eql rfl rfl ?_; refine JL_split (fun h5 => ?_) (fun h5 => ?_)
 ·refine JL_dv 11 ?_; refine JC_true rfl ?_; refine JC_sr ?_; refine JL_m ?_; refine JL_indexAddr 0 sl64 rfl rfl rfl om rdg (by rw [ncL_len]; omega) ?_; refine JL_loadEA (vs := [_, _, _]) ty66 zp rfl rdg (ncL_getA om) ?_; refine JL_store (vs := [_, _, _]) 0 ty66 rfl rfl rfl ao3 rfl bleq ?_; refine JL_du 11 [box _ _ [_, _, _]] [_, _] ?_; refine JC_ret ?_; refine JE_then_ret ?_; refine JE_nGet (f := true) (ks.getD 0 default) am (at_mem om) ?_; refine JE_ret (vs := [_]) [vN (ks.getD 0 default)] Tryz.results36 ⟨RV.cell (vs := [_, _, _]) 0 ty66 rfl rfl ⟨rfl, rfl, rfl, trivial⟩, rfl⟩ ?_ ?_
  · exact ⟨ks.getD 0 default, rfl, rfl, hk _ (at_mem om), grp_er1 om⟩
  · exact (all_cons am all_nil)
 ·refine JL_dv 11 ?_; refine JC_false rfl ?_; refine JC_skip ?_; refine JE_then ?_; refine JC_sr ?_; refine JL_m ?_; refine JL_build (cs := [_, _, _]) [(0, [_]), (2, [_])] st66 ⟨⟨rfl, _, rfl, rfl⟩, ⟨rfl, _, rfl, rfl⟩, rfl⟩ rfl ?_; refine JL_store (vs := [_, _, _]) 0 ty66 rfl rfl rfl ao3 rfl bleq ?_; refine JL_du 11 [box _ _ [_, _, _]] [_, _] ?_; refine JC_ret ?_; refine JE_nMake (f := true) (n := 0) (q := false) (ad := ad) (cap := c) (ks := ks) am am ?_; refine JE_ret (vs := [_]) [vN (nw 0 false ad c ks)] Tryz.results36 ⟨RV.cell (vs := [_, _, _]) 0 ty66 rfl rfl ⟨rfl, rfl, rfl, trivial⟩, rfl⟩ ?_ ?_
  · exact ⟨nw 0 false ad c ks, nval_P (n := 0) om, rfl, .nd hc hl om (fun e => by cases e) hk, by rw [er_mk om, grp_er2 om]⟩
  · exact (all_cons am all_nil)

theorem rline_con {ad : Option Addr} {c : Nat} {ks : List AT} (hc : ks.length ≤ c) (hl : ks.length ≤ 1000) (h0 : 0 < ks.length) (hk : ∀ k ∈ ks, Fit k) :
    ConA Tryz.prog 103 [.slice ad ks.length c] [vCells ad (ncL ks), vNs ks]
      (fun v φo => ∃ t : AT, v = nval t ∧ φo = [vN t] ∧ Fit t ∧ lne (ks.map er) = [er t]) := by
 refine ConA_of Tryz.func103 rfl 10 (_ :: rp 9) rfl rfl ?_; intro w0; refine JC_st [] [_, _] ?_; refine JC_sr ?_; refine JL_alloc z66 (fun b2 => ?_); refine JL_du 10 [box _ _ [_, _, _]] [_, _] ?_; refine JC_seq ?_; refine JC_sr ?_; refine JL_m ?_; refine JL_len sl64 rfl ?_; refine JL_leq rfl rfl ?_; refine JL_split (fun h5 => ?_) (fun h5 => ?_)
 ·refine JL_dv 10 ?_; refine JC_true rfl ?_; refine JC_sr ?_; refine JL_m ?_; refine JL_callA' true (AsksA.cons (holdsA_of_mem am) (AsksA.cons (holdsA_of_mem am) AsksA.nil)) (rgroup_con hc hl h0 hk) rfl ca36 ⟨rfl, rfl⟩ ?_; rintro _ _ ⟨t7, rfl, rfl, hf7, he7⟩; refine JL_store (vs := [_, _, _]) 0 ty66 rfl rfl rfl ao3 rfl bleq ?_; refine JL_du 10 [box _ _ [_, _, _]] [_, _, _] ?_; refine JC_ret ?_; refine JE_then_ret ?_; refine JE_ret (vs := [_]) [vN t7] Tryz.results103 ⟨RV.cell (vs := [_, _, _]) 0 ty66 rfl rfl ⟨rfl, rfl, rfl, trivial⟩, rfl⟩ ?_ ?_
  · exact ⟨t7, rfl, rfl, hf7, by rw [lne_er_lt om, he7]⟩
  · exact (all_cons am all_nil)
 ·refine JL_dv 10 ?_; refine JC_false rfl ?_; refine JC_skip ?_; refine JE_then ?_; refine JC_sr ?_; refine JL_m ?_; refine JL_build (cs := [_, _, _]) [(0, [_]), (2, [_])] st66 ⟨⟨rfl, _, rfl, rfl⟩, ⟨rfl, _, rfl, rfl⟩, rfl⟩ rfl ?_; refine JL_store (vs := [_, _, _]) 0 ty66 rfl rfl rfl ao3 rfl bleq ?_; refine JL_du 10 [box _ _ [_, _, _]] [_, _] ?_; refine JC_ret ?_; refine JE_nMake (f := true) (n := 0) (q := true) (ad := ad) (cap := c) (ks := ks) am am ?_; refine JE_ret (vs := [_]) [vN (nw 0 true ad c ks)] Tryz.results103 ⟨RV.cell (vs := [_, _, _]) 0 ty66 rfl rfl ⟨rfl, rfl, rfl, trivial⟩, rfl⟩ ?_ ?_
  · exact ⟨nw 0 true ad c ks, nval_Q (n := 0) om, rfl, .nd hc hl om (fun _ => by omega) hk, by rw [er_mk om, lne_er om]⟩
  · exact (all_cons am all_nil)

set_option maxHeartbeats 2000000 in
set_option maxRecDepth 20000 in
theorem rside_con0 {adr : Option Addr} {cr : Nat} {R : List Int} (hR : R.length ≤ 1000) (t : AT) (hf : Fit t) (hL : (lvs (er t)).length ≤ 1000) 
    (IH : ∀ k ∈ t.kids, ConA Tryz.prog 102 [nval k, .slice adr R.length cr] [vCells adr (i64s R), vN k] (fun v φo => ∃ (o : List AT) (ad3 : Option Addr) (c3 : Nat) (b3 : Bool), v = .tuple #[.slice ad3 o.length c3, .bool b3] ∧ (o.length ≤ c3 ∧ c3 ≤ 9223372036854775807) ∧ φo = [vCells ad3 (ncL o), vNs o] ∧ (∀ x ∈ o, Fit x) ∧ lin (inI R) (er (k)) = (if b3 then some (o.map er) else none))) :
    ConA Tryz.prog 102 [nval t, .slice adr R.length cr] [vCells adr (i64s R), vN t]
      (fun v φo => ∃ (o : List AT) (ad3 : Option Addr) (c3 : Nat) (b3 : Bool), v = .tuple #[.slice ad3 o.length c3, .bool b3] ∧ (o.length ≤ c3 ∧ c3 ≤ 9223372036854775807) ∧ φo = [vCells ad3 (ncL o), vNs o] ∧ (∀ x ∈ o, Fit x) ∧ lin (inI R) (er (t)) = (if b3 then some (o.map er) else none)) := by
 refine ConA_of Tryz.func102 rfl 140 (_ :: _ :: rp 138) rfl rfl ?_; intro w0; refine JC_st [] [_, _] ?_; refine JC_sr ?_; refine JL_box rfl rfl (fun b2 => ?_); refine JL_a ?_; refine JL_a ?_; refine JL_du 140 [box _ _ [_, _, _]] [_, _] ?_; refine JC_seq ?_; refine JC_seq ?_; refine JC_nOpen (f := true) (t := t) am ?_; refine JC_region ?_; refine JL_loadA (vs := [_, _, _]) 0 ty66 rfl rfl ⟨rfl, rfl, rfl, trivial⟩ ?_; refine JL_m ?_; refine JL_callF' (Asks.cons (holds_of_mem am) (Asks.cons (holds_of_mem am) Asks.nil)) (rstate_con hR t hf hL) rfl ca67 ⟨rfl, rfl, rfl⟩ ?_; rintro _ _ ⟨rfl, rfl⟩; refine JL_neq rfl rfl ?_; refine JL_split (fun h21 => ?_) (fun h21 => ?_)
 ·refine JL_du 140 [box _ _ [_, _, _]] [_, _, _, _] ?_; refine JC_true rfl ?_; refine JC_sr ?_; refine JL_loadA (vs := [_, _, _]) 0 ty66 rfl rfl ⟨rfl, rfl, rfl, trivial⟩ ?_; refine JL_buildN (cs0 := [.int .i64 0, .int .i64 0, .slice none 0 0]) (cs := [_, _, _]) [(0, [_, _, _])] sl64 kr ⟨⟨rfl, _, rfl, rfl⟩, rfl⟩ rfl rfl rfl rfl (fun g23 => ?_); refine JL_norm _ [box _ _ [_, _, _], osl _ _ _ _ _ (ncL [t])] [_, _, _, _] rfl rfl rfl ?_; refine JL_a ?_; refine JL_a ?_; refine JL_du 140 [box _ _ [_, _, _], osl _ _ _ _ _ _] [_, _, _, _] ?_; refine JC_ret ?_; refine JE_then_ret ?_; refine JE_nOne (f := true) (t := t) am ?_; refine JE_give 1 rfl ?_; refine JE_norm _ [box _ _ [_, _, _]] [_, _, _, _, _, _] rfl rfl rfl ?_; refine JE_ret (vs := [_, _]) [vCells (some ⟨g23, 0, none⟩) (ncL [t]), vNs [t]] Tryz.results102 ⟨rfl, rfl, rfl⟩ ?_ ?_
  · exact ⟨[t], _, _, true, rfl, ⟨Nat.le_refl _, by show (1 : Nat) ≤ _; omega⟩, rfl, fun x hx => by rw [List.mem_singleton.1 hx]; exact hf, by rw [lin_one (fun e => h21 (by rw [e]; rfl))]; rfl⟩
  · exact (all_cons am (all_cons am all_nil))
 ·have hst : st (inI R) (er t) = 1 := by omega
  have hk0 := st1_kids hst
  have hN := nA_kn hk0
  rw [er_kn hk0] at hst
  have hln := fitL hf
  have h2k := fit2 hf hk0
  have hcp := fitC hf
  refine JL_du 140 [box _ _ [_, _, _]] [_, _, _, _] ?_; refine JC_false rfl ?_; refine JC_skip ?_; refine JE_then ?_; refine JC_seq ?_; refine JC_sr ?_; refine JL_fieldAddr fo66_0 rfl ?_; refine JL_load 0 ty3 rfl rfl rfl ?_; refine JL_eql rfl rfl ?_; refine JL_split (fun h26 => ?_) (fun h26 => ?_)
  ·have hq : t.line = true := (kd_two.1 h26).2
   rw [hq] at hst; refine JL_dv 140 ?_; refine JC_true rfl ?_; refine JC_sr ?_; refine JL_fieldAddr fo66_2 rfl ?_; refine JL_load 0 ty64 rfl rfl rfl ?_; refine JL_a ?_; refine JL_dv 140 ?_; refine JC_seq ?_; refine JC_sr ?_; refine JL_m ?_; refine JL_m ?_; refine JL_callF' (Asks.cons (holds_of_mem am) (Asks.cons (holds_of_mem am) (Asks.cons (holds_of_mem am) Asks.nil))) (rord_con hR (fitK hf) om) rfl ca119 ⟨rfl, rfl, rfl⟩ ?_; rintro _ _ ⟨rfl, rfl⟩; refine JL_not rfl ?_; refine JL_du 140 [box _ _ [_, _, _]] [_, _, _, _] ?_; refine JC_cutT ((List AT) × (Option Addr) × (Nat)) (fun (K, ad9, c9) => K = ordK (inI R) t.kids) (fun u (K, ad9, c9) => (rn 6 (some (.slice ad9 K.length c9) :: rn 26 (sc u 33 2 [])))) (fun (K, ad9, c9) => []) (fun (K, ad9, c9) => [(true, vCells ad9 (ncL K))]) ?_ ?_
   ·refine JC_cond rfl (fun hb => ?_) (fun hb => ?_)
    ·have h32 := hb
     refine JC_region ?_; refine JL_m ?_; refine JL_callA' true (AsksA.cons (holdsA_of_mem am) AsksA.nil) (rturn_con om) rfl ca78 ⟨rfl, rfl⟩ ?_; rintro _ _ ⟨ad34, c34, rfl, hc34, rfl⟩; refine JL_a ?_; refine JL_nu 140 [box _ _ [_, _, _]] [_, _, _, _, _] ?_; refine JE_midS (t.kids.reverse, ad34, c34) kr ?_ kr ?_
     · exact (if_neg (by simpa using h32)).symm
     · exact subset_app (subset_cons am subset_nil) (ssS ss0)
    ·have h32 := hb
     refine JC_skip ?_; refine JE_midS (t.kids, t.kad, t.kcap) kr ?_ kr ?_
     · exact (if_pos (by simpa using h32)).symm
     · exact subset_app (subset_cons am subset_nil) ss0
   intro u i hK; obtain ⟨K, ad9, c9⟩ := i; refine JC_nm 140 [box _ _ [_, _, _]] [_, _, _, _, _] ?_
   have hKm : ∀ x ∈ K, x ∈ t.kids := fun x hx => ordK_mem (by rw [← hK]; exact hx)
   have hKl : K.length = t.kids.length := by rw [hK]; exact ordK_len _
   have hKN : nA K = nA t.kids := by rw [hK]; exact ordK_nA _
   refine JC_seq ?_; refine JC_sr ?_; refine JL_m ?_; refine JL_m ?_; refine JL_nSub (f := true) (l := t.kids) (m := K) am hKm ?_; refine JL_callF' (Asks.cons (holds_of_mem am) (Asks.cons (holds_of_mem am) (Asks.cons (holds_of_mem am) Asks.nil))) (rord_con hR (fun k hk => fitK hf k (hKm k hk)) om) rfl ca119 ⟨rfl, rfl, rfl⟩ ?_; rintro _ _ ⟨rfl, rfl⟩; refine JL_split (fun h37 => ?_) (fun h37 => ?_)
   ·refine JL_not rfl ?_; rw [Bool.not_true]; refine JL_du 140 [box _ _ [_, _, _]] [_, _, _, _, _, _] ?_; refine JC_false rfl ?_; refine JC_skip ?_; refine JE_then ?_; refine JC_sr ?_; refine JL_a ?_; refine JL_dv 140 ?_; refine JC_seq ?_; refine JC_sr ?_; refine JL_a ?_; refine JL_dv 140 ?_; refine JC_block ?_; refine JC_nNil ?_; refine JC_addNil 66 3 ?_; refine JC_nw [box _ _ [_, _, _], osl _ _ _ _ _ _] [_, _, _, _, _, _, _] ?_; refine JC_loopS ((Nat) × (List AT) × (Option Addr) × (Nat)) (fun (i, o, ad3, c3) => i ≤ K.length ∧ LQ (inI R) K (lastR (inI R) K i) i o ∧ (o.length ≤ c3 ∧ c3 ≤ 9223372036854775807)) (fun (i, o, ad3, c3) => K.length - i) (fun u (i, o, ad3, c3) => (rn 4 (sc u 4 2 (none :: some (.slice ad3 o.length c3) :: some (.int .i64 (i : Nat)) :: sc u 9 2 (rn 28 (sc u 39 20 [])))))) (fun (i, o, ad3, c3) => (none :: [some (osl ad3 o.length c3 66 3 (ncL o))])) (fun (i, o, ad3, c3) => [(true, vNs o)]) (0, [], none, 0) kr ?_ kr ?_ ?_
    · exact ⟨Nat.zero_le _, LQ.zero _, Nat.le_refl _, by omega⟩
    · exact (subset_cons am subset_nil)
    intro u i hC; obtain ⟨i, o, ad3, c3⟩ := i; obtain ⟨hi, hQ, hc3⟩ := hC; refine JC_nm 140 [box _ _ [_, _, _], osl _ _ _ _ _ _] [_, _, _, _, _, _, _, _] ?_
    have hoL := nA_ge hQ.fit
    have hbi := nA_le K i
    have hoN := hQ.len
    refine JC_seq ?_; refine JC_sr ?_; refine JL_m ?_; refine JL_m ?_; refine JL_len sl64 rfl ?_; refine JL_lss rfl rfl ?_; refine JL_split (fun h42 => ?_) (fun h42 => ?_)
    ·refine JL_dv 140 ?_; refine JC_true rfl ?_; refine JC_skip ?_; refine JE_then ?_; refine JC_seq ?_; refine JC_block ?_; refine JC_sr ?_; refine JL_m ?_; refine JL_m ?_; refine JL_indexAddr i sl64 rfl rfl rfl om rdg (by rw [ncL_len]; omega) ?_; refine JL_loadEA (vs := [_, _, _]) ty66 zp rfl rdg (ncL_getA om) ?_; refine JL_m ?_; refine JL_callA' true (AsksA.cons (holdsA_of_mem am) (AsksA.cons (holdsA_of_mem am) AsksA.nil)) (conNA (IH (K.getD i default) (hKm _ (at_mem (l := K) (i := i) om))) (at_mem (l := K) (i := i) om)) rfl ca102 ⟨rfl, rfl, rfl⟩ ?_; rintro _ _ ⟨o51, ad51, c51, b51, rfl, hc51, rfl, hf51, hl51⟩; refine JL_m ?_; refine JL_extract (v := .slice ad51 o51.length c51) rfl rfl ?_; refine JL_extract (v := .bool b51) rfl rfl ?_; refine JL_a ?_; refine JL_a ?_; refine JL_du 140 [box _ _ [_, _, _], osl _ _ _ _ _ _] [_, _, _, _, _, _, _, _, _, _] ?_; refine JC_seq ?_; refine JC_sr ?_; refine JL_m ?_; refine JL_not rfl ?_
     refine JL_dv 140 ?_; refine JC_cond rfl (fun hb => ?_) (fun hb => ?_)
     ·have h55 := hb
      refine JC_sr ?_; refine JL_a ?_; refine JL_a ?_; refine JL_dv 140 ?_; refine JC_ret ?_; refine JE_then_ret ?_; refine JE_block_ret ?_; refine JE_then_ret ?_; refine JE_nextS_ret ?_; refine JE_block_ret ?_; refine JE_then_ret ?_; refine JE_then_ret ?_; refine JE_nNo ?_; refine JE_ret (vs := [_, _]) [vCells none (ncL []), vNs []] Tryz.results102 ⟨rfl, rfl, rfl⟩ ?_ ?_
      · exact ⟨[], none, 0, false, rfl, ⟨Nat.le_refl _, by omega⟩, rfl, (fun _ h => by cases h), by rw [er_kn hk0, hq, lin_K hst, ordK_yes (kids_ne hk0) (by rw [← hK]; exact h37), ← hK, hQ.no (i := i) om (.inr (by rw [hl51, show b51 = false from by cases b51 with | false => rfl | true => exact absurd h55 (by decide)]; rfl))]; rfl⟩
      · exact (all_cons am (all_cons am all_nil))
     ·have h55 := hb
      refine JC_skip ?_; refine JE_then ?_; refine JC_region ?_; refine JL_m ?_; refine JL_m ?_; obtain rfl : b51 = true := by cases b51 with | true => rfl | false => exact absurd h55 (by decide)
      replace hl51 : lin (inI R) (er (K.getD i default)) = some (o51.map er) := hl51
      have hN51 : nA o51 = _ := lin_nl (fitK hf _ (ordK_mem (by rw [← hK]; exact (at_mem (l := K) (i := i) om)))).ok hl51
      have hoL2 := nA_ge hf51
      have hbj2 := nA_take (l := K) (i := i) om
      have hbj3 := nA_le K (i + 1)
      refine JL_append (news := ncL o51) 1 sl64 rfl (by decide) rfl rfl rfl (by rw [ncL_len]) (Reads.view am) (ncL_one _) om om (fun ad58 cap58 hc58 => ?_); refine JL_norm _ [box _ _ [_, _, _], osl _ _ _ _ _ _] [_, _, _, _, _, _, _, _, _, _] rfl rfl rfl ?_; rw [ncL_app, ← List.length_append]; rw [← List.length_append] at hc58; refine JL_nApp (f := true) (l := o) (m := o51) am am ?_; refine JL_a ?_; refine JL_nu 140 [box _ _ [_, _, _], osl _ _ _ _ _ _] [_, _, _, _, _, _, _, _, _, _, _] ?_; refine JE_block_normal ?_; refine JE_then ?_; refine JC_region ?_; refine JL_m ?_; refine JL_add_to rfl rfl i6o ?_; refine JL_a ?_; refine JL_nv 140 ?_; refine JE_nextS (i + 1, o ++ o51, ad58, cap58) kr ?_ ?_ kr ?_
      · exact ⟨by omega, hQ.stepR h37 om (fitK hf _ (ordK_mem (by rw [← hK]; exact (at_mem (l := K) (i := i) om)))).ok hl51 hf51, hc58⟩
      · first | omega | (dsimp only; omega)
      · exact subset_app (subset_cons am subset_nil) (ssS (ssS (ssS (ssS ss0))))
    ·refine JL_dv 140 ?_; refine JC_false rfl ?_; refine JC_exit ?_; refine JE_then_exit ?_; refine JE_nextS_exit ?_; refine JE_block_exit ?_; refine JE_then ?_; refine JC_sr ?_; refine JL_m ?_; refine JL_a ?_; refine JL_a ?_; refine JL_dv 140 ?_; refine JC_ret ?_; refine JE_then_ret ?_; refine JE_give 1 rfl ?_; refine JE_norm _ [box _ _ [_, _, _]] [_, _, _, _, _, _, _, _, _] rfl rfl rfl ?_; refine JE_ret (vs := [_, _]) [vCells ad3 (ncL o), vNs o] Tryz.results102 ⟨rfl, rfl, rfl⟩ ?_ ?_
     · exact ⟨o, ad3, c3, true, rfl, hc3, rfl, hQ.fit, by rw [er_kn hk0, hq, lin_K hst, ordK_yes (kids_ne hk0) (by rw [← hK]; exact h37), ← hK, hQ.done om]; rfl⟩
     · exact (all_cons am (all_cons am all_nil))
   ·refine JL_not rfl ?_; rw [Bool.not_false]; refine JL_du 140 [box _ _ [_, _, _]] [_, _, _, _, _, _] ?_; refine JC_true rfl ?_; refine JC_sr ?_; refine JL_a ?_; refine JL_a ?_; refine JL_dv 140 ?_; refine JC_ret ?_; refine JE_then_ret ?_; refine JE_then_ret ?_; refine JE_nNo ?_; refine JE_ret (vs := [_, _]) [vCells none (ncL []), vNs []] Tryz.results102 ⟨rfl, rfl, rfl⟩ ?_ ?_
    · exact ⟨[], none, 0, false, rfl, ⟨Nat.le_refl _, by omega⟩, rfl, (fun _ h => by cases h), by rw [er_kn hk0, hq, lin_K hst, ordK_no (by rw [← hK]; exact h37)]; rfl⟩
    · exact (all_cons am (all_cons am all_nil))
  ·have hq : t.line = false := line_f hk0 h26
   rw [hq] at hst; refine JL_dv 140 ?_; refine JC_false rfl ?_; refine JC_skip ?_; refine JE_then ?_; refine JC_sr ?_; refine JL_a ?_; refine JL_a ?_; refine JL_a ?_; refine JL_dv 140 ?_; refine JC_seq ?_; refine JC_sr ?_; refine JL_a ?_; refine JL_dv 140 ?_; refine JC_block ?_; refine JC_addNil 66 3 ?_; refine JC_nw [box _ _ [_, _, _], osl _ _ _ _ _ _] [_, _, _, _] ?_; refine JC_addNil 66 3 ?_; refine JC_nw [box _ _ [_, _, _], osl _ _ _ _ _ _, osl _ _ _ _ _ _] [_, _, _, _] ?_; refine JC_addNil 66 3 ?_; refine JC_nw [box _ _ [_, _, _], osl _ _ _ _ _ _, osl _ _ _ _ _ _, osl _ _ _ _ _ _] [_, _, _, _] ?_
   refine JC_loopS ((Nat) × (Option Addr) × (Nat) × (Option Addr) × (Nat) × (Option Addr) × (Nat)) (fun (i, a0, c0, a1, c1, a2, c2) => i ≤ t.kids.length ∧ ((byA (inI R) 0 (t.kids.take i)).length ≤ c0 ∧ c0 ≤ 9223372036854775807) ∧ ((byA (inI R) 1 (t.kids.take i)).length ≤ c1 ∧ c1 ≤ 9223372036854775807) ∧ ((byA (inI R) 2 (t.kids.take i)).length ≤ c2 ∧ c2 ≤ 9223372036854775807)) (fun (i, a0, c0, a1, c1, a2, c2) => t.kids.length - i) (fun u (i, a0, c0, a1, c1, a2, c2) => (rn 11 (some (.slice a0 (byA (inI R) 0 (t.kids.take i)).length c0) :: some (.slice a2 (byA (inI R) 2 (t.kids.take i)).length c2) :: some (.slice a1 (byA (inI R) 1 (t.kids.take i)).length c1) :: some (.int .i64 (i : Nat)) :: rn 45 (sc u 60 44 [])))) (fun (i, a0, c0, a1, c1, a2, c2) => (none :: some (osl a0 (byA (inI R) 0 (t.kids.take i)).length c0 66 3 (ncL (byA (inI R) 0 (t.kids.take i)))) :: some (osl a2 (byA (inI R) 2 (t.kids.take i)).length c2 66 3 (ncL (byA (inI R) 2 (t.kids.take i)))) :: [some (osl a1 (byA (inI R) 1 (t.kids.take i)).length c1 66 3 (ncL (byA (inI R) 1 (t.kids.take i))))])) (fun (i, a0, c0, a1, c1, a2, c2) => []) (0, none, 0, none, 0, none, 0) kr ?_ kr ?_ ?_
   · exact ⟨Nat.zero_le _, ⟨Nat.le_refl _, by omega⟩, ⟨Nat.le_refl _, by omega⟩, ⟨Nat.le_refl _, by omega⟩⟩
   · exact subset_nil
   intro u i hC; obtain ⟨i, a0, c0, a1, c1, a2, c2⟩ := i; obtain ⟨hi, hc0, hc1, hc2⟩ := hC; refine JC_nm 140 [box _ _ [_, _, _], osl _ _ _ _ _ _, osl _ _ _ _ _ _, osl _ _ _ _ _ _] [_, _, _, _] ?_
   have hl0 := byA_len (inI R) 0 (t.kids.take i)
   have hl1 := byA_len (inI R) 1 (t.kids.take i)
   have hl2 := byA_len (inI R) 2 (t.kids.take i)
   rw [List.length_take] at hl0 hl1 hl2; refine JC_seq ?_; refine JC_sr ?_; refine JL_m ?_; refine JL_fieldAddr fo66_2 rfl ?_; refine JL_load 0 ty64 rfl rfl rfl ?_; refine JL_len sl64 rfl ?_; refine JL_lss rfl rfl ?_; refine JL_split (fun h64 => ?_) (fun h64 => ?_)
   ·refine JL_dv 140 ?_; refine JC_true rfl ?_; refine JC_skip ?_; refine JE_then ?_; refine JC_seq ?_; refine JC_block ?_; refine JC_sr ?_; refine JL_fieldAddr fo66_2 rfl ?_; refine JL_load 0 ty64 rfl rfl rfl ?_; refine JL_m ?_; refine JL_indexAddr i sl64 rfl rfl rfl om rdg (by rw [ncL_len]; omega) ?_; refine JL_loadEA (vs := [_, _, _]) ty66 zp rfl rdg (ncL_getA om) ?_; refine JL_m ?_
    refine JL_callF' (Asks.cons (by first | exact holds_of_mem am | (exact holds_of_own 1 rfl) | (exact holds_of_own 2 rfl) | (exact holds_of_own 3 rfl)) (Asks.cons (by first | exact holds_of_mem am | (exact holds_of_own 1 rfl) | (exact holds_of_own 2 rfl) | (exact holds_of_own 3 rfl)) Asks.nil)) (conN1 (rstate_con hR (t.kids.getD i default) (fitK hf _ (at_mem (l := t.kids) (i := i) om)) (by have := nA_mem (at_mem (l := t.kids) (i := i) om); omega)) (at_mem (l := t.kids) (i := i) om)) rfl ca67 ⟨rfl, rfl, rfl⟩ ?_; rintro _ _ ⟨rfl, rfl⟩; refine JL_du 140 [box _ _ [_, _, _], osl _ _ _ _ _ _, osl _ _ _ _ _ _, osl _ _ _ _ _ _] [_, _, _, _] ?_; refine JC_block ?_; refine JC_seq ?_
    rcases (by have := st_le (inI R) (er (t.kids.getD i default)); omega : st (inI R) (er (t.kids.getD i default)) = 0 ∨ st (inI R) (er (t.kids.getD i default)) = 1 ∨ st (inI R) (er (t.kids.getD i default)) = 2) with hs | hs | hs
    ·have e0 := byA_same (S := (inI R)) (s := 0) (l := t.kids) (i := i) om hs
     have e1 := byA_other (S := (inI R)) (s := 1) (l := t.kids) (i := i) om (by rw [hs]; omega)
     have e2 := byA_other (S := (inI R)) (s := 2) (l := t.kids) (i := i) om (by rw [hs]; omega)
     refine JC_region ?_; refine JL_eql rfl rfl ?_; rw [decide_eq_true (p := ((st (inI R) (er (t.kids.getD i default)) : Nat) : Int) = 0) om]; refine JL_a ?_; refine JL_dv 140 ?_; refine JC_true rfl ?_; refine JC_region ?_; refine JL_m ?_; refine JL_fieldAddr fo66_2 rfl ?_; refine JL_load 0 ty64 rfl rfl rfl ?_; refine JL_m ?_; refine JL_indexAddr i sl64 rfl rfl rfl om rdg (by rw [ncL_len]; omega) ?_; refine JL_loadEA (vs := [_, _, _]) ty66 zp rfl rdg (ncL_getA om) ?_; refine JL_buildN (cs0 := [.int .i64 0, .int .i64 0, .slice none 0 0]) (cs := [_, _, _]) [(0, [_, _, _])] sl64 kr ⟨⟨rfl, _, rfl, rfl⟩, rfl⟩ rfl rfl rfl rfl (fun g82 => ?_); refine JL_append (news := nc (t.kids.getD i default)) 1 sl64 rfl (by decide) rfl rfl rfl rfl (Reads.own 4 rfl) (nc_one _) om om (fun ad83 cap83 hc83 => ?_); refine JL_dropAt 4 ?_
     refine JL_norm _ [box _ _ [_, _, _], osl _ _ _ _ _ _, osl _ _ _ _ _ _, osl _ _ _ _ _ _] [_, _, _, _] rfl rfl rfl ?_; rw [ncL_snoc, show (byA (inI R) 0 (t.kids.take i)).length + 1 = (byA (inI R) 0 (t.kids.take (i + 1))).length from (by rw [e0, List.length_append]; rfl), ← e0]; rw [← e1, ← e2]; refine JL_a ?_; refine JL_nu 140 [box _ _ [_, _, _], osl _ _ _ _ _ _, osl _ _ _ _ _ _, osl _ _ _ _ _ _] [_, _, _, _] ?_; refine JE_block_normal ?_; refine JE_block_normal ?_; refine JE_then ?_; refine JC_region ?_; refine JL_m ?_; refine JL_add_to rfl rfl i6o ?_; refine JL_a ?_; refine JL_nv 140 ?_; refine JE_nextS (i + 1, ad83, cap83, a1, c1, a2, c2) kr ?_ ?_ kr ?_
     · exact ⟨by omega, by first | (rw [e0, List.length_append, List.length_singleton]; omega) | (rw [e0]; omega), by first | (rw [e1, List.length_append, List.length_singleton]; omega) | (rw [e1]; omega), by first | (rw [e2, List.length_append, List.length_singleton]; omega) | (rw [e2]; omega)⟩
     · first | omega | (dsimp only; omega)
     · exact subset_app subset_nil ss0
    ·have e0 := byA_other (S := (inI R)) (s := 0) (l := t.kids) (i := i) om (by rw [hs]; omega)
     have e1 := byA_same (S := (inI R)) (s := 1) (l := t.kids) (i := i) om hs
     have e2 := byA_other (S := (inI R)) (s := 2) (l := t.kids) (i := i) om (by rw [hs]; omega)
     refine JC_region ?_; refine JL_eql rfl rfl ?_; rw [decide_eq_false (p := ((st (inI R) (er (t.kids.getD i default)) : Nat) : Int) = 0) om]; refine JL_a ?_; refine JL_dv 140 ?_; refine JC_false rfl ?_; refine JC_sr ?_; refine JL_eql rfl rfl ?_; rw [decide_eq_true (p := ((st (inI R) (er (t.kids.getD i default)) : Nat) : Int) = 1) om]; refine JL_a ?_; refine JL_dv 140 ?_; refine JC_true rfl ?_; refine JC_region ?_; refine JL_m ?_; refine JL_fieldAddr fo66_2 rfl ?_; refine JL_load 0 ty64 rfl rfl rfl ?_; refine JL_m ?_; refine JL_indexAddr i sl64 rfl rfl rfl om rdg (by rw [ncL_len]; omega) ?_; refine JL_loadEA (vs := [_, _, _]) ty66 zp rfl rdg (ncL_getA om) ?_; refine JL_buildN (cs0 := [.int .i64 0, .int .i64 0, .slice none 0 0]) (cs := [_, _, _]) [(0, [_, _, _])] sl64 kr ⟨⟨rfl, _, rfl, rfl⟩, rfl⟩ rfl rfl rfl rfl (fun g92 => ?_)
     refine JL_append (news := nc (t.kids.getD i default)) 3 sl64 rfl (by decide) rfl rfl rfl rfl (Reads.own 4 rfl) (nc_one _) om om (fun ad93 cap93 hc93 => ?_); refine JL_dropAt 4 ?_; refine JL_norm _ [box _ _ [_, _, _], osl _ _ _ _ _ _, osl _ _ _ _ _ _, osl _ _ _ _ _ _] [_, _, _, _] rfl rfl rfl ?_; rw [ncL_snoc, show (byA (inI R) 1 (t.kids.take i)).length + 1 = (byA (inI R) 1 (t.kids.take (i + 1))).length from (by rw [e1, List.length_append]; rfl), ← e1]; rw [← e0, ← e2]; refine JL_a ?_; refine JL_nu 140 [box _ _ [_, _, _], osl _ _ _ _ _ _, osl _ _ _ _ _ _, osl _ _ _ _ _ _] [_, _, _, _] ?_; refine JE_block_normal ?_; refine JE_block_normal ?_; refine JE_then ?_; refine JC_region ?_; refine JL_m ?_; refine JL_add_to rfl rfl i6o ?_; refine JL_a ?_; refine JL_nv 140 ?_; refine JE_nextS (i + 1, a0, c0, ad93, cap93, a2, c2) kr ?_ ?_ kr ?_
     · exact ⟨by omega, by first | (rw [e0, List.length_append, List.length_singleton]; omega) | (rw [e0]; omega), by first | (rw [e1, List.length_append, List.length_singleton]; omega) | (rw [e1]; omega), by first | (rw [e2, List.length_append, List.length_singleton]; omega) | (rw [e2]; omega)⟩
     · first | omega | (dsimp only; omega)
     · exact subset_app subset_nil ss0
    ·have e0 := byA_other (S := (inI R)) (s := 0) (l := t.kids) (i := i) om (by rw [hs]; omega)
     have e1 := byA_other (S := (inI R)) (s := 1) (l := t.kids) (i := i) om (by rw [hs]; omega)
     have e2 := byA_same (S := (inI R)) (s := 2) (l := t.kids) (i := i) om hs
     refine JC_region ?_; refine JL_eql rfl rfl ?_; rw [decide_eq_false (p := ((st (inI R) (er (t.kids.getD i default)) : Nat) : Int) = 0) om]; refine JL_a ?_; refine JL_dv 140 ?_; refine JC_false rfl ?_; refine JC_sr ?_; refine JL_eql rfl rfl ?_; rw [decide_eq_false (p := ((st (inI R) (er (t.kids.getD i default)) : Nat) : Int) = 1) om]; refine JL_a ?_; refine JL_dv 140 ?_; refine JC_false rfl ?_; refine JC_sr ?_; refine JL_eql rfl rfl ?_; rw [decide_eq_true (p := ((st (inI R) (er (t.kids.getD i default)) : Nat) : Int) = 2) om]; refine JL_a ?_; refine JL_dv 140 ?_; refine JC_true rfl ?_; refine JC_region ?_; refine JL_m ?_; refine JL_fieldAddr fo66_2 rfl ?_; refine JL_load 0 ty64 rfl rfl rfl ?_; refine JL_m ?_; refine JL_indexAddr i sl64 rfl rfl rfl om rdg (by rw [ncL_len]; omega) ?_
     refine JL_loadEA (vs := [_, _, _]) ty66 zp rfl rdg (ncL_getA om) ?_; refine JL_buildN (cs0 := [.int .i64 0, .int .i64 0, .slice none 0 0]) (cs := [_, _, _]) [(0, [_, _, _])] sl64 kr ⟨⟨rfl, _, rfl, rfl⟩, rfl⟩ rfl rfl rfl rfl (fun g102 => ?_); refine JL_append (news := nc (t.kids.getD i default)) 2 sl64 rfl (by decide) rfl rfl rfl rfl (Reads.own 4 rfl) (nc_one _) om om (fun ad103 cap103 hc103 => ?_); refine JL_dropAt 4 ?_; refine JL_norm _ [box _ _ [_, _, _], osl _ _ _ _ _ _, osl _ _ _ _ _ _, osl _ _ _ _ _ _] [_, _, _, _] rfl rfl rfl ?_; rw [ncL_snoc, show (byA (inI R) 2 (t.kids.take i)).length + 1 = (byA (inI R) 2 (t.kids.take (i + 1))).length from (by rw [e2, List.length_append]; rfl), ← e2]; rw [← e0, ← e1]; refine JL_a ?_; refine JL_nu 140 [box _ _ [_, _, _], osl _ _ _ _ _ _, osl _ _ _ _ _ _, osl _ _ _ _ _ _] [_, _, _, _] ?_; refine JE_block_normal ?_; refine JE_block_normal ?_; refine JE_then ?_; refine JC_region ?_; refine JL_m ?_; refine JL_add_to rfl rfl i6o ?_
     refine JL_a ?_; refine JL_nv 140 ?_; refine JE_nextS (i + 1, a0, c0, a1, c1, ad103, cap103) kr ?_ ?_ kr ?_
     · exact ⟨by omega, by first | (rw [e0, List.length_append, List.length_singleton]; omega) | (rw [e0]; omega), by first | (rw [e1, List.length_append, List.length_singleton]; omega) | (rw [e1]; omega), by first | (rw [e2, List.length_append, List.length_singleton]; omega) | (rw [e2]; omega)⟩
     · first | omega | (dsimp only; omega)
     · exact subset_app subset_nil ss0
   ·refine JL_dv 140 ?_; refine JC_false rfl ?_; refine JC_exit ?_; refine JE_then_exit ?_; refine JE_nextS_exit ?_; refine JE_block_exit ?_; refine JE_then ?_; refine JC_seq ?_; refine JC_seq ?_; rw [List.take_of_length_le (show t.kids.length ≤ i by omega)] at *
    have hb3 := nA_by3 (S := (inI R)) t.kids
    refine JC_give 1 rfl ?_; refine JC_nw [box _ _ [_, _, _], osl _ _ _ _ _ _, osl _ _ _ _ _ _] [_, _, _, _, _] ?_; refine JC_give 1 rfl ?_; refine JC_nw [box _ _ [_, _, _], osl _ _ _ _ _ _] [_, _, _, _, _, _] ?_; refine JC_give 1 rfl ?_; refine JC_nw [box _ _ [_, _, _]] [_, _, _, _, _, _, _] ?_; refine JC_region ?_; refine JL_m ?_; refine JL_len sl64 rfl ?_; refine JL_gtr rfl rfl ?_; refine JL_split (fun h106 => ?_) (fun h106 => ?_)
    ·refine JL_dv 140 ?_; refine JC_true rfl ?_; refine JC_sr ?_; refine JL_a ?_; refine JL_a ?_; refine JL_dv 140 ?_; refine JC_ret ?_; refine JE_then_ret ?_; refine JE_nNo ?_; refine JE_ret (vs := [_, _]) [vCells none (ncL []), vNs []] Tryz.results102 ⟨rfl, rfl, rfl⟩ ?_ ?_
     · exact ⟨[], none, 0, false, rfl, ⟨Nat.le_refl _, by omega⟩, rfl, (fun _ h => by cases h), by rw [er_kn hk0, hq, LP.two om hst]; rfl⟩
     · exact (all_cons am (all_cons am all_nil))
    ·refine JL_dv 140 ?_; refine JC_false rfl ?_; refine JC_skip ?_; refine JE_then ?_; refine JC_sr ?_; refine JL_a ?_; refine JL_dv 140 ?_; refine JC_seq ?_; refine JC_sr ?_; refine JL_nNil ?_; refine JL_addNil 66 3 ?_; refine JL_m ?_; refine JL_len sl64 rfl ?_; refine JL_gtr rfl rfl ?_; refine JL_du 140 [box _ _ [_, _, _], osl _ _ _ _ _ _] [_, _, _, _, _, _, _, _] ?_; refine JC_cutT ((List AT) × (Option Addr) × (Nat)) (fun (o, ad3, c3) => LP (inI R) t.kids 0 o ∧ (∀ x ∈ o, Fit x) ∧ o.length ≤ 1 ∧ nA o ≤ nA (byA (inI R) 0 (t.kids)) ∧ (o.length ≤ c3 ∧ c3 ≤ 9223372036854775807)) (fun u (o, ad3, c3) => (rn 15 (some (.slice ad3 o.length c3) :: rn 94 (sc u 110 5 [])))) (fun (o, ad3, c3) => (none :: [some (osl ad3 o.length c3 66 3 (ncL o))])) (fun (o, ad3, c3) => [(true, vNs o)]) ?_ ?_
     ·refine JC_cond rfl (fun hb => ?_) (fun hb => ?_)
      ·have h109 := of_decide_eq_true hb
       refine JC_region ?_; refine JL_m ?_; refine JL_m ?_; refine JL_nSub (f := true) (l := t.kids) (m := byA (inI R) 0 (t.kids)) am (fun x hx => byA_mem hx) ?_; refine JL_callA' true (AsksA.cons (holdsA_of_mem am) (AsksA.cons (holdsA_of_mem am) AsksA.nil)) (rgroup_con hc0.1 om om (fun k hk => fitK hf k (byA_mem hk))) rfl ca36 ⟨rfl, rfl⟩ ?_; rintro _ _ ⟨t112, rfl, rfl, hf112, he112⟩; refine JL_buildN (cs0 := [.int .i64 0, .int .i64 0, .slice none 0 0]) (cs := [_, _, _]) [(0, [_, _, _])] sl64 kr ⟨⟨rfl, _, rfl, rfl⟩, rfl⟩ rfl rfl rfl rfl (fun g113 => ?_); refine JL_norm _ [box _ _ [_, _, _], osl _ _ _ _ _ _, osl _ _ _ _ _ (ncL [t112])] [_, _, _, _, _, _, _, _, _, _] rfl rfl rfl ?_; refine JL_append (news := ncL [t112]) 1 sl64 rfl (by decide) rfl rfl rfl (by rw [ncL_len]; rfl) (Reads.own 2 rfl) (ncL_one _) om om (fun ad114 cap114 hc114 => ?_); refine JL_dropAt 2 ?_; refine JL_norm _ [box _ _ [_, _, _], osl _ _ _ _ _ _] [_, _, _, _, _, _, _, _, _, _] rfl rfl rfl ?_; rw [List.nil_append]; refine JL_nOne (f := true) (t := t112) am ?_; refine JL_a ?_
       refine JL_nu 140 [box _ _ [_, _, _], osl _ _ _ _ _ _] [_, _, _, _, _, _, _, _, _, _, _] ?_; refine JE_midS ([t112], ad114, cap114) kr ?_ kr ?_
       · exact ⟨LP.zero he112.symm, (fun x hx => by rw [List.mem_singleton.1 hx]; exact hf112), Nat.le_refl _, Nat.le_of_eq (nA_grp (by rw [he112]; rfl)), hc114⟩
       · exact subset_app (subset_cons am subset_nil) (ssS (ssS (ssS ss0)))
      ·have h109 := of_decide_eq_false hb
       refine JC_skip ?_; refine JE_midS ([], none, 0) kr ?_ kr ?_
       · exact ⟨LP.zero (grp_er0 om).symm, (fun x hx => by cases hx), Nat.zero_le _, Nat.zero_le _, Nat.le_refl _, by omega⟩
       · exact subset_app (subset_cons am subset_nil) ss0
     intro u i hC; obtain ⟨o, ad3, c3⟩ := i; obtain ⟨hP, hF, ho1, hoN, hc3⟩ := hC; refine JC_nm 140 [box _ _ [_, _, _], osl _ _ _ _ _ _] [_, _, _, _, _, _, _, _, _] ?_; refine JC_seq ?_; refine JC_sr ?_; refine JL_m ?_; refine JL_len sl64 rfl ?_; refine JL_eql rfl rfl ?_; refine JL_dv 140 ?_; refine JC_cutT ((Nat) × (List AT) × (Option Addr) × (Nat)) (fun (j, o', ad4, c4) => LP (inI R) t.kids j o' ∧ ¬ j < (byA (inI R) 1 (t.kids)).length ∧ (∀ x ∈ o', Fit x) ∧ nA o' ≤ nA (byA (inI R) 0 (t.kids)) + nA (byA (inI R) 1 (t.kids)) ∧ (o'.length ≤ c4 ∧ c4 ≤ 9223372036854775807)) (fun u (j, o', ad4, c4) => (rn 4 (sc u 4 2 (rn 9 (some (.slice ad4 o'.length c4) :: sc u 16 2 (rn 100 (sc u 118 13 []))))))) (fun (j, o', ad4, c4) => (none :: [some (osl ad4 o'.length c4 66 3 (ncL o'))])) (fun (j, o', ad4, c4) => [(true, vNs o')]) ?_ ?_
     ·refine JC_cond rfl (fun hb => ?_) (fun hb => ?_)
      ·have h117 := of_decide_eq_true hb
       refine JC_sr ?_; refine JL_m ?_; refine JL_indexAddr 0 sl64 rfl rfl rfl om rdg (by rw [ncL_len]; omega) ?_; refine JL_loadEA (vs := [_, _, _]) ty66 zp rfl rdg (ncL_getA om) ?_; refine JL_m ?_; refine JL_callA' true (AsksA.cons (holdsA_of_mem am) (AsksA.cons (holdsA_of_mem am) AsksA.nil)) (conNA (IH ((byA (inI R) 1 (t.kids)).getD 0 default) (byA_mem (S := (inI R)) (s := 1) (at_mem (l := byA (inI R) 1 (t.kids)) (i := 0) om))) (byA_mem (S := (inI R)) (s := 1) (at_mem (l := byA (inI R) 1 (t.kids)) (i := 0) om))) rfl ca102 ⟨rfl, rfl, rfl⟩ ?_; rintro _ _ ⟨o123, ad123, c123, b123, rfl, hc123, rfl, hf123, hl123⟩; refine JL_m ?_; refine JL_extract (v := .slice ad123 o123.length c123) rfl rfl ?_; refine JL_extract (v := .bool b123) rfl rfl ?_; refine JL_a ?_; refine JL_a ?_; refine JL_du 140 [box _ _ [_, _, _], osl _ _ _ _ _ _] [_, _, _, _, _, _, _, _, _, _, _] ?_; refine JC_seq ?_; refine JC_sr ?_; refine JL_m ?_; refine JL_not rfl ?_
       refine JL_dv 140 ?_; refine JC_cond rfl (fun hb => ?_) (fun hb => ?_)
       ·have h127 := hb
        refine JC_sr ?_; refine JL_a ?_; refine JL_a ?_; refine JL_dv 140 ?_; refine JC_ret ?_; refine JE_then_ret ?_; refine JE_midS_ret ?_; refine JE_nNo ?_; refine JE_ret (vs := [_, _]) [vCells none (ncL []), vNs []] Tryz.results102 ⟨rfl, rfl, rfl⟩ ?_ ?_
        · exact ⟨[], none, 0, false, rfl, ⟨Nat.le_refl _, by omega⟩, rfl, (fun _ h => by cases h), by rw [er_kn hk0, hq, LP.no (j := 0) om om hst (by rw [hl123, show b123 = false from by cases b123 with | false => rfl | true => exact absurd h127 (by decide)]; rfl)]; rfl⟩
        · exact (all_cons am (all_cons am all_nil))
       ·have h127 := hb
        refine JC_skip ?_; refine JE_then ?_; refine JC_region ?_; refine JL_m ?_; refine JL_m ?_; obtain rfl : b123 = true := by cases b123 with | true => rfl | false => exact absurd h127 (by decide)
        replace hl123 : lin (inI R) (er ((byA (inI R) 1 (t.kids)).getD 0 default)) = some (o123.map er) := hl123
        have hN123 : nA o123 = _ := lin_nl (fitK hf _ (byA_mem (S := (inI R)) (s := 1) (at_mem (l := byA (inI R) 1 (t.kids)) (i := 0) om))).ok hl123
        have hoL2 := nA_ge hf123
        have hbj2 := nA_mem (at_mem (l := byA (inI R) 1 (t.kids)) (i := 0) om)
        refine JL_append (news := ncL o123) 1 sl64 rfl (by decide) rfl rfl rfl (by rw [ncL_len]) (Reads.view am) (ncL_one _) om om (fun ad130 cap130 hc130 => ?_); refine JL_norm _ [box _ _ [_, _, _], osl _ _ _ _ _ _] [_, _, _, _, _, _, _, _, _, _, _] rfl rfl rfl ?_; rw [ncL_app, ← List.length_append]; rw [← List.length_append] at hc130; refine JL_nApp (f := true) (l := o) (m := o123) am am ?_; refine JL_a ?_; refine JL_nu 140 [box _ _ [_, _, _], osl _ _ _ _ _ _] [_, _, _, _, _, _, _, _, _, _, _, _] ?_; refine JE_midS (1, o ++ o123, ad130, cap130) kr ?_ kr ?_
        · exact ⟨hP.step om om hl123, by omega, (fun x hx => (List.mem_append.1 hx).elim (hF x) (hf123 x)), by rw [nA_app]; omega, hc130⟩
        · exact subset_app (subset_cons am subset_nil) (ssS (ssS (ssS ss0)))
      ·have h117 := of_decide_eq_false hb
       refine JC_skip ?_; refine JE_midS (0, o, ad3, c3) kr ?_ kr ?_
       · exact ⟨hP, by omega, hF, by omega, hc3⟩
       · exact subset_app (subset_cons am subset_nil) ss0
     intro u i hC; obtain ⟨j, o', ad4, c4⟩ := i; obtain ⟨hP2, hj2, hF2, hN2, hc4⟩ := hC; refine JC_nm 140 [box _ _ [_, _, _], osl _ _ _ _ _ _] [_, _, _, _, _, _, _, _, _, _] ?_; refine JC_seq ?_; refine JC_seq ?_
     have hoL3 := nA_ge hF2
     refine JC_region ?_; refine JL_m ?_; refine JL_len sl64 rfl ?_; refine JL_gtr rfl rfl ?_; refine JL_split (fun h133 => ?_) (fun h133 => ?_)
     ·refine JL_dv 140 ?_; refine JC_true rfl ?_; refine JC_region ?_; refine JL_m ?_; refine JL_m ?_; refine JL_nSub (f := true) (l := t.kids) (m := byA (inI R) 2 (t.kids)) am (fun x hx => byA_mem hx) ?_; refine JL_callA' true (AsksA.cons (holdsA_of_mem am) (AsksA.cons (holdsA_of_mem am) AsksA.nil)) (rgroup_con hc2.1 om om (fun k hk => fitK hf k (byA_mem hk))) rfl ca36 ⟨rfl, rfl⟩ ?_; rintro _ _ ⟨t136, rfl, rfl, hf136, he136⟩; refine JL_buildN (cs0 := [.int .i64 0, .int .i64 0, .slice none 0 0]) (cs := [_, _, _]) [(0, [_, _, _])] sl64 kr ⟨⟨rfl, _, rfl, rfl⟩, rfl⟩ rfl rfl rfl rfl (fun g137 => ?_); refine JL_norm _ [box _ _ [_, _, _], osl _ _ _ _ _ _, osl _ _ _ _ _ (ncL [t136])] [_, _, _, _, _, _, _, _, _, _, _, _] rfl rfl rfl ?_; refine JL_append (news := ncL [t136]) 1 sl64 rfl (by decide) rfl rfl rfl (by rw [ncL_len]; rfl) (Reads.own 2 rfl) (ncL_one _) om om (fun ad138 cap138 hc138 => ?_); refine JL_dropAt 2 ?_; refine JL_norm _ [box _ _ [_, _, _], osl _ _ _ _ _ _] [_, _, _, _, _, _, _, _, _, _, _, _] rfl rfl rfl ?_; rw [ncL_app, show (o').length + 1 = (o' ++ [t136]).length from (by rw [List.length_append]; rfl)]
      rw [show (o').length + 1 = (o' ++ [t136]).length from (by rw [List.length_append]; rfl)] at hc138; refine JL_nSnoc (f := true) (l := o') t136 am am ?_; refine JL_a ?_; refine JL_du 140 [box _ _ [_, _, _], osl _ _ _ _ _ _] [_, _, _, _, _, _, _, _, _, _, _, _, _] ?_; refine JC_sr ?_; refine JL_m ?_; refine JL_a ?_; refine JL_a ?_; refine JL_dv 140 ?_; refine JC_ret ?_; refine JE_give 1 rfl ?_; refine JE_norm _ [box _ _ [_, _, _]] [_, _, _, _, _, _, _, _, _, _, _, _, _, _] rfl rfl rfl ?_; refine JE_ret (vs := [_, _]) [vCells ad138 (ncL (o' ++ [t136])), vNs (o' ++ [t136])] Tryz.results102 ⟨rfl, rfl, rfl⟩ ?_ ?_
      · exact ⟨o' ++ [t136], ad138, cap138, true, rfl, hc138, rfl, fun x hx => (List.mem_append.1 hx).elim (hF2 x) (fun h => by rw [List.mem_singleton.1 h]; exact hf136), by rw [er_kn hk0, hq, hP2.done (g := [t136]) hj2 om hst he136.symm]; rfl⟩
      · exact (all_cons am (all_cons am all_nil))
     ·refine JL_dv 140 ?_; refine JC_false rfl ?_; refine JC_skip ?_; refine JE_then ?_; refine JC_sr ?_; refine JL_m ?_; refine JL_a ?_; refine JL_a ?_; refine JL_dv 140 ?_; refine JC_ret ?_; refine JE_give 1 rfl ?_; refine JE_norm _ [box _ _ [_, _, _]] [_, _, _, _, _, _, _, _, _, _, _] rfl rfl rfl ?_; refine JE_ret (vs := [_, _]) [vCells ad4 (ncL o'), vNs o'] Tryz.results102 ⟨rfl, rfl, rfl⟩ ?_ ?_
      · exact ⟨o', ad4, c4, true, rfl, hc4, rfl, hF2, by rw [er_kn hk0, hq, hP2.done (g := []) hj2 om hst (grp_er0 om).symm, List.append_nil]; rfl⟩
      · exact (all_cons am (all_cons am all_nil))

theorem rside_con {adr : Option Addr} {cr : Nat} {R : List Int} (hR : R.length ≤ 1000) (t : AT) : Fit t → (lvs (er t)).length ≤ 1000 → ConA Tryz.prog 102 [nval t, .slice adr R.length cr] [vCells adr (i64s R), vN t] (fun v φo => ∃ (o : List AT) (ad3 : Option Addr) (c3 : Nat) (b3 : Bool), v = .tuple #[.slice ad3 o.length c3, .bool b3] ∧ (o.length ≤ c3 ∧ c3 ≤ 9223372036854775807) ∧ φo = [vCells ad3 (ncL o), vNs o] ∧ (∀ x ∈ o, Fit x) ∧ lin (inI R) (er (t)) = (if b3 then some (o.map er) else none)) := by
  induction t using AT.indP with
  | h t ih => exact fun hf hL => rside_con0 hR t hf hL fun k hk => ih k hk (fitK hf k hk) (by
      have h1 : t.kids.length ≠ 0 := fun e => by rw [List.length_eq_zero_iff.1 e] at hk; cases hk
      rw [nA_kn h1] at hL
      have := nA_mem hk
      omega)

set_option maxHeartbeats 2000000 in
set_option maxRecDepth 20000 in
theorem rtog_con {adr : Option Addr} {cr : Nat} {R : List Int} (hR : R.length ≤ 1000) (t : AT) (hf : Fit t) (hL : (lvs (er t)).length ≤ 1000)  (h0 : some_ (inI R) (t.kids.map er) ≠ 0) (hk0 : t.kids.length ≠ 0) :
    ConA Tryz.prog 69 [nval t, .slice adr R.length cr] [vCells adr (i64s R), vN t]
      (fun v φo => ∃ (t' : AT) (b3 : Bool), v = .tuple #[nval t', .bool b3] ∧ φo = [vN t'] ∧ RN t' b3 (tog (inI R) (t.kids.map er))) := by
 refine ConA_of Tryz.func69 rfl 114 (_ :: _ :: rp 112) rfl rfl ?_; intro w0; refine JC_st [] [_, _] ?_; refine JC_sr ?_; refine JL_box rfl rfl (fun b2 => ?_); refine JL_alloc z66 (fun b4 => ?_); refine JL_a ?_; refine JL_du 114 [box _ _ [_, _, _], box _ _ [_, _, _]] [_, _] ?_; refine JC_seq ?_; refine JC_nOpen (f := true) (t := t) am ?_; refine JC_region ?_; refine JL_a ?_; refine JL_a ?_; refine JL_a ?_; refine JL_dv 114 ?_; refine JC_seq ?_; refine JC_seq ?_
 have hN := nA_kn hk0
 have hln := fitL hf
 have hcp := fitC hf
 refine JC_region ?_; refine JL_a ?_; refine JL_dv 114 ?_; refine JC_block ?_; refine JC_addNil 66 3 ?_; refine JC_nw [box _ _ [_, _, _], box _ _ [_, _, _], osl _ _ _ _ _ _] [_, _, _, _] ?_; refine JC_addNil 66 3 ?_; refine JC_nw [box _ _ [_, _, _], box _ _ [_, _, _], osl _ _ _ _ _ _, osl _ _ _ _ _ _] [_, _, _, _] ?_; refine JC_addNil 66 3 ?_; refine JC_nw [box _ _ [_, _, _], box _ _ [_, _, _], osl _ _ _ _ _ _, osl _ _ _ _ _ _, osl _ _ _ _ _ _] [_, _, _, _] ?_
 refine JC_loopS ((Nat) × (Option Addr) × (Nat) × (Option Addr) × (Nat) × (Option Addr) × (Nat)) (fun (i, a0, c0, a1, c1, a2, c2) => i ≤ t.kids.length ∧ ((byA (inI R) 0 (t.kids.take i)).length ≤ c0 ∧ c0 ≤ 9223372036854775807) ∧ ((byA (inI R) 1 (t.kids.take i)).length ≤ c1 ∧ c1 ≤ 9223372036854775807) ∧ ((byA (inI R) 2 (t.kids.take i)).length ≤ c2 ∧ c2 ≤ 9223372036854775807)) (fun (i, a0, c0, a1, c1, a2, c2) => t.kids.length - i) (fun u (i, a0, c0, a1, c1, a2, c2) => (rn 6 (some (.slice a0 (byA (inI R) 0 (t.kids.take i)).length c0) :: some (.slice a2 (byA (inI R) 2 (t.kids.take i)).length c2) :: some (.slice a1 (byA (inI R) 1 (t.kids.take i)).length c1) :: some (.int .i64 (i : Nat)) :: rn 6 (sc u 16 44 [])))) (fun (i, a0, c0, a1, c1, a2, c2) => (rn 2 (some (osl a0 (byA (inI R) 0 (t.kids.take i)).length c0 66 3 (ncL (byA (inI R) 0 (t.kids.take i)))) :: some (osl a2 (byA (inI R) 2 (t.kids.take i)).length c2 66 3 (ncL (byA (inI R) 2 (t.kids.take i)))) :: [some (osl a1 (byA (inI R) 1 (t.kids.take i)).length c1 66 3 (ncL (byA (inI R) 1 (t.kids.take i))))]))) (fun (i, a0, c0, a1, c1, a2, c2) => []) (0, none, 0, none, 0, none, 0) kr ?_ kr ?_ ?_
 · exact ⟨Nat.zero_le _, ⟨Nat.le_refl _, by omega⟩, ⟨Nat.le_refl _, by omega⟩, ⟨Nat.le_refl _, by omega⟩⟩
 · exact subset_nil
 intro u i hC; obtain ⟨i, a0, c0, a1, c1, a2, c2⟩ := i; obtain ⟨hi, hc0, hc1, hc2⟩ := hC; refine JC_nm 114 [box _ _ [_, _, _], box _ _ [_, _, _], osl _ _ _ _ _ _, osl _ _ _ _ _ _, osl _ _ _ _ _ _] [_, _, _, _] ?_
 have hl0 := byA_len (inI R) 0 (t.kids.take i)
 have hl1 := byA_len (inI R) 1 (t.kids.take i)
 have hl2 := byA_len (inI R) 2 (t.kids.take i)
 rw [List.length_take] at hl0 hl1 hl2; refine JC_seq ?_; refine JC_sr ?_; refine JL_m ?_; refine JL_fieldAddr fo66_2 rfl ?_; refine JL_load 0 ty64 rfl rfl rfl ?_; refine JL_len sl64 rfl ?_; refine JL_lss rfl rfl ?_; refine JL_split (fun h20 => ?_) (fun h20 => ?_)
 ·refine JL_dv 114 ?_; refine JC_true rfl ?_; refine JC_skip ?_; refine JE_then ?_; refine JC_seq ?_; refine JC_block ?_; refine JC_sr ?_; refine JL_fieldAddr fo66_2 rfl ?_; refine JL_load 0 ty64 rfl rfl rfl ?_; refine JL_m ?_; refine JL_indexAddr i sl64 rfl rfl rfl om (by first | exact Reads.view am | (exact Reads.own 2 rfl) | (exact Reads.own 3 rfl) | (exact Reads.own 4 rfl)) (by rw [ncL_len]; omega) ?_; refine JL_loadEA (vs := [_, _, _]) ty66 zp rfl (by first | exact Reads.view am | (exact Reads.own 2 rfl) | (exact Reads.own 3 rfl) | (exact Reads.own 4 rfl)) (ncL_getA om) ?_; refine JL_m ?_
  refine JL_callF' (Asks.cons (by first | exact holds_of_mem am | (exact holds_of_own 2 rfl) | (exact holds_of_own 3 rfl) | (exact holds_of_own 4 rfl)) (Asks.cons (by first | exact holds_of_mem am | (exact holds_of_own 2 rfl) | (exact holds_of_own 3 rfl) | (exact holds_of_own 4 rfl)) Asks.nil)) (conN1 (rstate_con hR (t.kids.getD i default) (fitK hf _ (at_mem (l := t.kids) (i := i) om)) (by have := nA_mem (at_mem (l := t.kids) (i := i) om); omega)) (at_mem (l := t.kids) (i := i) om)) rfl ca67 ⟨rfl, rfl, rfl⟩ ?_; rintro _ _ ⟨rfl, rfl⟩; refine JL_du 114 [box _ _ [_, _, _], box _ _ [_, _, _], osl _ _ _ _ _ _, osl _ _ _ _ _ _, osl _ _ _ _ _ _] [_, _, _, _] ?_; refine JC_block ?_; refine JC_seq ?_
  rcases (by have := st_le (inI R) (er (t.kids.getD i default)); omega : st (inI R) (er (t.kids.getD i default)) = 0 ∨ st (inI R) (er (t.kids.getD i default)) = 1 ∨ st (inI R) (er (t.kids.getD i default)) = 2) with hs | hs | hs
  ·have e0 := byA_same (S := (inI R)) (s := 0) (l := t.kids) (i := i) om hs
   have e1 := byA_other (S := (inI R)) (s := 1) (l := t.kids) (i := i) om (by rw [hs]; omega)
   have e2 := byA_other (S := (inI R)) (s := 2) (l := t.kids) (i := i) om (by rw [hs]; omega)
   refine JC_region ?_; refine JL_eql rfl rfl ?_; rw [decide_eq_true (p := ((st (inI R) (er (t.kids.getD i default)) : Nat) : Int) = 0) om]; refine JL_a ?_; refine JL_dv 114 ?_; refine JC_true rfl ?_; refine JC_region ?_; refine JL_m ?_; refine JL_fieldAddr fo66_2 rfl ?_; refine JL_load 0 ty64 rfl rfl rfl ?_; refine JL_m ?_; refine JL_indexAddr i sl64 rfl rfl rfl om (by first | exact Reads.view am | (exact Reads.own 2 rfl) | (exact Reads.own 3 rfl) | (exact Reads.own 4 rfl)) (by rw [ncL_len]; omega) ?_; refine JL_loadEA (vs := [_, _, _]) ty66 zp rfl (by first | exact Reads.view am | (exact Reads.own 2 rfl) | (exact Reads.own 3 rfl) | (exact Reads.own 4 rfl)) (ncL_getA om) ?_; refine JL_buildN (cs0 := [.int .i64 0, .int .i64 0, .slice none 0 0]) (cs := [_, _, _]) [(0, [_, _, _])] sl64 kr ⟨⟨rfl, _, rfl, rfl⟩, rfl⟩ rfl rfl rfl rfl (fun g38 => ?_); refine JL_append (news := nc (t.kids.getD i default)) 2 sl64 rfl (by decide) rfl rfl rfl rfl (Reads.own 5 rfl) (nc_one _) om om (fun ad39 cap39 hc39 => ?_); refine JL_dropAt 5 ?_
   refine JL_norm _ [box _ _ [_, _, _], box _ _ [_, _, _], osl _ _ _ _ _ _, osl _ _ _ _ _ _, osl _ _ _ _ _ _] [_, _, _, _] rfl rfl rfl ?_; rw [ncL_snoc, show (byA (inI R) 0 (t.kids.take i)).length + 1 = (byA (inI R) 0 (t.kids.take (i + 1))).length from (by rw [e0, List.length_append]; rfl), ← e0]; rw [← e1, ← e2]; refine JL_a ?_; refine JL_nu 114 [box _ _ [_, _, _], box _ _ [_, _, _], osl _ _ _ _ _ _, osl _ _ _ _ _ _, osl _ _ _ _ _ _] [_, _, _, _] ?_; refine JE_block_normal ?_; refine JE_block_normal ?_; refine JE_then ?_; refine JC_region ?_; refine JL_m ?_; refine JL_add_to rfl rfl i6o ?_; refine JL_a ?_; refine JL_nv 114 ?_; refine JE_nextS (i + 1, ad39, cap39, a1, c1, a2, c2) kr ?_ ?_ kr ?_
   · exact ⟨by omega, by first | (rw [e0, List.length_append, List.length_singleton]; omega) | (rw [e0]; omega), by first | (rw [e1, List.length_append, List.length_singleton]; omega) | (rw [e1]; omega), by first | (rw [e2, List.length_append, List.length_singleton]; omega) | (rw [e2]; omega)⟩
   · first | omega | (dsimp only; omega)
   · exact subset_app subset_nil ss0
  ·have e0 := byA_other (S := (inI R)) (s := 0) (l := t.kids) (i := i) om (by rw [hs]; omega)
   have e1 := byA_same (S := (inI R)) (s := 1) (l := t.kids) (i := i) om hs
   have e2 := byA_other (S := (inI R)) (s := 2) (l := t.kids) (i := i) om (by rw [hs]; omega)
   refine JC_region ?_; refine JL_eql rfl rfl ?_; rw [decide_eq_false (p := ((st (inI R) (er (t.kids.getD i default)) : Nat) : Int) = 0) om]; refine JL_a ?_; refine JL_dv 114 ?_; refine JC_false rfl ?_; refine JC_sr ?_; refine JL_eql rfl rfl ?_; rw [decide_eq_true (p := ((st (inI R) (er (t.kids.getD i default)) : Nat) : Int) = 1) om]; refine JL_a ?_; refine JL_dv 114 ?_; refine JC_true rfl ?_; refine JC_region ?_; refine JL_m ?_; refine JL_fieldAddr fo66_2 rfl ?_; refine JL_load 0 ty64 rfl rfl rfl ?_; refine JL_m ?_; refine JL_indexAddr i sl64 rfl rfl rfl om (by first | exact Reads.view am | (exact Reads.own 2 rfl) | (exact Reads.own 3 rfl) | (exact Reads.own 4 rfl)) (by rw [ncL_len]; omega) ?_; refine JL_loadEA (vs := [_, _, _]) ty66 zp rfl (by first | exact Reads.view am | (exact Reads.own 2 rfl) | (exact Reads.own 3 rfl) | (exact Reads.own 4 rfl)) (ncL_getA om) ?_; refine JL_buildN (cs0 := [.int .i64 0, .int .i64 0, .slice none 0 0]) (cs := [_, _, _]) [(0, [_, _, _])] sl64 kr ⟨⟨rfl, _, rfl, rfl⟩, rfl⟩ rfl rfl rfl rfl (fun g48 => ?_)
   refine JL_append (news := nc (t.kids.getD i default)) 4 sl64 rfl (by decide) rfl rfl rfl rfl (Reads.own 5 rfl) (nc_one _) om om (fun ad49 cap49 hc49 => ?_); refine JL_dropAt 5 ?_; refine JL_norm _ [box _ _ [_, _, _], box _ _ [_, _, _], osl _ _ _ _ _ _, osl _ _ _ _ _ _, osl _ _ _ _ _ _] [_, _, _, _] rfl rfl rfl ?_; rw [ncL_snoc, show (byA (inI R) 1 (t.kids.take i)).length + 1 = (byA (inI R) 1 (t.kids.take (i + 1))).length from (by rw [e1, List.length_append]; rfl), ← e1]; rw [← e0, ← e2]; refine JL_a ?_; refine JL_nu 114 [box _ _ [_, _, _], box _ _ [_, _, _], osl _ _ _ _ _ _, osl _ _ _ _ _ _, osl _ _ _ _ _ _] [_, _, _, _] ?_; refine JE_block_normal ?_; refine JE_block_normal ?_; refine JE_then ?_; refine JC_region ?_; refine JL_m ?_; refine JL_add_to rfl rfl i6o ?_; refine JL_a ?_; refine JL_nv 114 ?_; refine JE_nextS (i + 1, a0, c0, ad49, cap49, a2, c2) kr ?_ ?_ kr ?_
   · exact ⟨by omega, by first | (rw [e0, List.length_append, List.length_singleton]; omega) | (rw [e0]; omega), by first | (rw [e1, List.length_append, List.length_singleton]; omega) | (rw [e1]; omega), by first | (rw [e2, List.length_append, List.length_singleton]; omega) | (rw [e2]; omega)⟩
   · first | omega | (dsimp only; omega)
   · exact subset_app subset_nil ss0
  ·have e0 := byA_other (S := (inI R)) (s := 0) (l := t.kids) (i := i) om (by rw [hs]; omega)
   have e1 := byA_other (S := (inI R)) (s := 1) (l := t.kids) (i := i) om (by rw [hs]; omega)
   have e2 := byA_same (S := (inI R)) (s := 2) (l := t.kids) (i := i) om hs
   refine JC_region ?_; refine JL_eql rfl rfl ?_; rw [decide_eq_false (p := ((st (inI R) (er (t.kids.getD i default)) : Nat) : Int) = 0) om]; refine JL_a ?_; refine JL_dv 114 ?_; refine JC_false rfl ?_; refine JC_sr ?_; refine JL_eql rfl rfl ?_; rw [decide_eq_false (p := ((st (inI R) (er (t.kids.getD i default)) : Nat) : Int) = 1) om]; refine JL_a ?_; refine JL_dv 114 ?_; refine JC_false rfl ?_; refine JC_sr ?_; refine JL_eql rfl rfl ?_; rw [decide_eq_true (p := ((st (inI R) (er (t.kids.getD i default)) : Nat) : Int) = 2) om]; refine JL_a ?_; refine JL_dv 114 ?_; refine JC_true rfl ?_; refine JC_region ?_; refine JL_m ?_; refine JL_fieldAddr fo66_2 rfl ?_; refine JL_load 0 ty64 rfl rfl rfl ?_; refine JL_m ?_; refine JL_indexAddr i sl64 rfl rfl rfl om (by first | exact Reads.view am | (exact Reads.own 2 rfl) | (exact Reads.own 3 rfl) | (exact Reads.own 4 rfl)) (by rw [ncL_len]; omega) ?_
   refine JL_loadEA (vs := [_, _, _]) ty66 zp rfl (by first | exact Reads.view am | (exact Reads.own 2 rfl) | (exact Reads.own 3 rfl) | (exact Reads.own 4 rfl)) (ncL_getA om) ?_; refine JL_buildN (cs0 := [.int .i64 0, .int .i64 0, .slice none 0 0]) (cs := [_, _, _]) [(0, [_, _, _])] sl64 kr ⟨⟨rfl, _, rfl, rfl⟩, rfl⟩ rfl rfl rfl rfl (fun g58 => ?_); refine JL_append (news := nc (t.kids.getD i default)) 3 sl64 rfl (by decide) rfl rfl rfl rfl (Reads.own 5 rfl) (nc_one _) om om (fun ad59 cap59 hc59 => ?_); refine JL_dropAt 5 ?_; refine JL_norm _ [box _ _ [_, _, _], box _ _ [_, _, _], osl _ _ _ _ _ _, osl _ _ _ _ _ _, osl _ _ _ _ _ _] [_, _, _, _] rfl rfl rfl ?_; rw [ncL_snoc, show (byA (inI R) 2 (t.kids.take i)).length + 1 = (byA (inI R) 2 (t.kids.take (i + 1))).length from (by rw [e2, List.length_append]; rfl), ← e2]; rw [← e0, ← e1]; refine JL_a ?_; refine JL_nu 114 [box _ _ [_, _, _], box _ _ [_, _, _], osl _ _ _ _ _ _, osl _ _ _ _ _ _, osl _ _ _ _ _ _] [_, _, _, _] ?_; refine JE_block_normal ?_; refine JE_block_normal ?_; refine JE_then ?_; refine JC_region ?_; refine JL_m ?_
   refine JL_add_to rfl rfl i6o ?_; refine JL_a ?_; refine JL_nv 114 ?_; refine JE_nextS (i + 1, a0, c0, a1, c1, ad59, cap59) kr ?_ ?_ kr ?_
   · exact ⟨by omega, by first | (rw [e0, List.length_append, List.length_singleton]; omega) | (rw [e0]; omega), by first | (rw [e1, List.length_append, List.length_singleton]; omega) | (rw [e1]; omega), by first | (rw [e2, List.length_append, List.length_singleton]; omega) | (rw [e2]; omega)⟩
   · first | omega | (dsimp only; omega)
   · exact subset_app subset_nil ss0
 ·refine JL_dv 114 ?_; refine JC_false rfl ?_; refine JC_exit ?_; refine JE_then_exit ?_; refine JE_nextS_exit ?_; refine JE_block_exit ?_; refine JE_then ?_; refine JC_seq ?_; refine JC_seq ?_; rw [List.take_of_length_le (show t.kids.length ≤ i by omega)] at *
  have hb3 := nA_by3 (S := (inI R)) t.kids
  refine JC_give 3 rfl ?_; refine JC_nw [box _ _ [_, _, _], box _ _ [_, _, _], osl _ _ _ _ _ _, osl _ _ _ _ _ _] [_, _, _, _, _] ?_; refine JC_give 3 rfl ?_; refine JC_nw [box _ _ [_, _, _], box _ _ [_, _, _], osl _ _ _ _ _ _] [_, _, _, _, _, _] ?_; refine JC_region ?_; refine JL_m ?_; refine JL_len sl64 rfl ?_; refine JL_gtr rfl rfl ?_; refine JL_split (fun h62 => ?_) (fun h62 => ?_)
  ·refine JL_dv 114 ?_; refine JC_true rfl ?_; refine JC_sr ?_; refine JL_build (cs := [_, _, _]) [] st66 rfl rfl ?_; refine JL_store (vs := [_, _, _]) 1 ty66 rfl rfl rfl ao3 rfl bleq ?_; refine JL_a ?_; refine JL_du 114 [box _ _ [_, _, _], box _ _ [_, _, _], osl _ _ _ _ _ _] [_, _, _, _, _, _] ?_; refine JC_ret ?_; refine JE_then_ret ?_; refine JE_nLeaf (n := 0) ?_; refine JE_ret (vs := [_, _]) [vN (nw 0 false none 0 [])] Tryz.results69 ⟨RV.cell (vs := [_, _, _]) 1 ty66 rfl rfl ⟨rfl, rfl, rfl, trivial⟩, rfl, rfl⟩ ?_ ?_
   · exact ⟨nw 0 false none 0 [], false, rfl, rfl, .not (tog_no om)⟩
   · exact (all_cons am all_nil)
  ·refine JL_dv 114 ?_; refine JC_false rfl ?_; refine JC_skip ?_; refine JE_then ?_; refine JC_sr ?_; refine JL_a ?_; refine JL_dv 114 ?_; refine JC_seq ?_; refine JC_sr ?_; refine JL_nNil ?_; refine JL_addNil 66 3 ?_; refine JL_m ?_; refine JL_len sl64 rfl ?_; refine JL_gtr rfl rfl ?_; refine JL_du 114 [box _ _ [_, _, _], box _ _ [_, _, _], osl _ _ _ _ _ _, osl _ _ _ _ _ _] [_, _, _, _, _, _, _] ?_; refine JC_cutT ((List AT) × (Option Addr) × (Nat)) (fun (l, ad3, c3) => TG (inI R) t.kids l ∧ (∀ x ∈ l, Fit x) ∧ (l.length ≤ c3 ∧ c3 ≤ 9223372036854775807)) (fun u (l, ad3, c3) => (rn 5 (some (u 5) :: rn 4 (some (.slice ad3 l.length c3) :: sc u 11 2 (rn 54 (sc u 67 14 [])))))) (fun (l, ad3, c3) => (rn 3 [some (osl ad3 l.length c3 66 3 (ncL l))])) (fun (l, ad3, c3) => [(true, vNs l)]) ?_ ?_
   ·refine JC_cond rfl (fun hb => ?_) (fun hb => ?_)
    ·have h66 := of_decide_eq_true hb
     refine JC_sr ?_; refine JL_m ?_; refine JL_indexAddr 0 sl64 rfl rfl rfl om rdg (by rw [ncL_len]; omega) ?_; refine JL_loadEA (vs := [_, _, _]) ty66 zp rfl rdg (ncL_getA om) ?_; refine JL_m ?_; refine JL_callA' true (AsksA.cons (holdsA_of_mem am) (AsksA.cons (holdsA_of_mem am) AsksA.nil)) (conNA (rside_con hR ((byA (inI R) 1 (t.kids)).getD 0 default) (fitK hf _ (byA_mem (S := (inI R)) (s := 1) (at_mem (l := byA (inI R) 1 (t.kids)) (i := 0) om))) (by have := nA_mem (byA_mem (S := (inI R)) (s := 1) (at_mem (l := byA (inI R) 1 (t.kids)) (i := 0) om)); omega)) (byA_mem (S := (inI R)) (s := 1) (at_mem (l := byA (inI R) 1 (t.kids)) (i := 0) om))) rfl ca102 ⟨rfl, rfl, rfl⟩ ?_; rintro _ _ ⟨o72, ad72, c72, b72, rfl, hc72, rfl, hf72, hl72⟩; refine JL_m ?_; refine JL_extract (v := .slice ad72 o72.length c72) rfl rfl ?_; refine JL_extract (v := .bool b72) rfl rfl ?_; refine JL_a ?_; refine JL_a ?_
     refine JL_du 114 [box _ _ [_, _, _], box _ _ [_, _, _], osl _ _ _ _ _ _, osl _ _ _ _ _ _] [_, _, _, _, _, _, _, _, _] ?_; refine JC_seq ?_; refine JC_sr ?_; refine JL_m ?_; refine JL_not rfl ?_; refine JL_dv 114 ?_; refine JC_cond rfl (fun hb => ?_) (fun hb => ?_)
     ·have h76 := hb
      refine JC_sr ?_; refine JL_build (cs := [_, _, _]) [] st66 rfl rfl ?_; refine JL_store (vs := [_, _, _]) 1 ty66 rfl rfl rfl ao3 rfl bleq ?_; refine JL_a ?_; refine JL_du 114 [box _ _ [_, _, _], box _ _ [_, _, _], osl _ _ _ _ _ _, osl _ _ _ _ _ _] [_, _, _, _, _, _, _, _, _] ?_; refine JC_ret ?_; refine JE_then_ret ?_; refine JE_midS_ret ?_; refine JE_nLeaf (n := 0) ?_; refine JE_ret (vs := [_, _]) [vN (nw 0 false none 0 [])] Tryz.results69 ⟨RV.cell (vs := [_, _, _]) 1 ty66 rfl rfl ⟨rfl, rfl, rfl, trivial⟩, rfl, rfl⟩ ?_ ?_
      · exact ⟨nw 0 false none 0 [], false, rfl, rfl, .not (tog_no0 om (by rw [hl72, show b72 = false from by cases b72 with | false => rfl | true => exact absurd h76 (by decide)]; rfl))⟩
      · exact (all_cons am all_nil)
     ·have h76 := hb
      refine JC_skip ?_; refine JE_then ?_; refine JC_region ?_; refine JL_m ?_; refine JL_m ?_; obtain rfl : b72 = true := by cases b72 with | true => rfl | false => exact absurd h76 (by decide)
      replace hl72 : lin (inI R) (er ((byA (inI R) 1 (t.kids)).getD 0 default)) = some (o72.map er) := hl72
      have hN72 : nA o72 = _ := lin_nl (fitK hf _ (byA_mem (S := (inI R)) (s := 1) (at_mem (l := byA (inI R) 1 (t.kids)) (i := 0) om))).ok hl72
      have hoL2 := nA_ge hf72
      have hbj2 := nA_mem (at_mem (l := byA (inI R) 1 (t.kids)) (i := 0) om)
      refine JL_append (news := ncL o72) 3 sl64 rfl (by decide) rfl rfl rfl (by rw [ncL_len]) (Reads.view am) (ncL_one _) om om (fun ad80 cap80 hc80 => ?_); refine JL_norm _ [box _ _ [_, _, _], box _ _ [_, _, _], osl _ _ _ _ _ _, osl _ _ _ _ _ _] [_, _, _, _, _, _, _, _, _] rfl rfl rfl ?_; rw [Nat.zero_add] at hc80; rw [List.nil_append, Nat.zero_add o72.length]; refine JL_a ?_; refine JL_nu 114 [box _ _ [_, _, _], box _ _ [_, _, _], osl _ _ _ _ _ _, osl _ _ _ _ _ _] [_, _, _, _, _, _, _, _, _] ?_; refine JE_midS (o72, ad80, cap80) kr ?_ kr ?_
      · exact ⟨TG.some om hl72, hf72, hc80⟩
      · exact subset_app (subset_cons am subset_nil) (ssS (ssS ss0))
    ·have h66 := of_decide_eq_false hb
     refine JC_skip ?_; refine JE_midS ([], none, 0) kr ?_ kr ?_
     · exact ⟨TG.zero om, (fun x hx => by cases hx), Nat.le_refl _, by omega⟩
     · exact subset_app (subset_cons am subset_nil) ss0
   intro u i hC; obtain ⟨l, ad3, c3⟩ := i; obtain ⟨hT, hF, hc3⟩ := hC; refine JC_nm 114 [box _ _ [_, _, _], box _ _ [_, _, _], osl _ _ _ _ _ _, osl _ _ _ _ _ _] [_, _, _, _, _, _, _, _] ?_
   have hlN := hT.nA (fitK hf)
   have hlN2 := nA_le (byA (inI R) 1 (t.kids)) 1
   have hlN3 := nA_ge hF
   refine JC_seq ?_; refine JC_sr ?_; refine JL_m ?_; refine JL_len sl64 rfl ?_; refine JL_gtr rfl rfl ?_; refine JL_dv 114 ?_; refine JC_cutT ((List AT) × (Option Addr) × (Nat)) (fun (l2, ad4, c4) => (∃ g, l2 = l ++ g ∧ g.map er = grp ((byA (inI R) 2 (t.kids)).map er) ∧ g.length ≤ 1) ∧ (∀ x ∈ l2, Fit x) ∧ (l2.length ≤ c4 ∧ c4 ≤ 9223372036854775807)) (fun u (l2, ad4, c4) => (rn 10 (some (.slice ad4 l2.length c4) :: rn 73 (sc u 84 5 [])))) (fun (l2, ad4, c4) => (rn 3 [some (osl ad4 l2.length c4 66 3 (ncL l2))])) (fun (l2, ad4, c4) => [(true, vNs l2)]) ?_ ?_
   ·refine JC_cond rfl (fun hb => ?_) (fun hb => ?_)
    ·have h83 := of_decide_eq_true hb
     refine JC_region ?_; refine JL_m ?_; refine JL_m ?_; refine JL_nSub (f := true) (l := t.kids) (m := byA (inI R) 2 (t.kids)) am (fun x hx => byA_mem hx) ?_; refine JL_callA' true (AsksA.cons (holdsA_of_mem am) (AsksA.cons (holdsA_of_mem am) AsksA.nil)) (rgroup_con hc2.1 om om (fun k hk => fitK hf k (byA_mem hk))) rfl ca36 ⟨rfl, rfl⟩ ?_; rintro _ _ ⟨t86, rfl, rfl, hf86, he86⟩; refine JL_buildN (cs0 := [.int .i64 0, .int .i64 0, .slice none 0 0]) (cs := [_, _, _]) [(0, [_, _, _])] sl64 kr ⟨⟨rfl, _, rfl, rfl⟩, rfl⟩ rfl rfl rfl rfl (fun g87 => ?_); refine JL_norm _ [box _ _ [_, _, _], box _ _ [_, _, _], osl _ _ _ _ _ _, osl _ _ _ _ _ _, osl _ _ _ _ _ (ncL [t86])] [_, _, _, _, _, _, _, _, _, _] rfl rfl rfl ?_; refine JL_append (news := ncL [t86]) 3 sl64 rfl (by decide) rfl rfl rfl (by rw [ncL_len]; rfl) (Reads.own 4 rfl) (ncL_one _) om om (fun ad88 cap88 hc88 => ?_); refine JL_dropAt 4 ?_; refine JL_norm _ [box _ _ [_, _, _], box _ _ [_, _, _], osl _ _ _ _ _ _, osl _ _ _ _ _ _] [_, _, _, _, _, _, _, _, _, _] rfl rfl rfl ?_; rw [ncL_app, show (l).length + 1 = (l ++ [t86]).length from (by rw [List.length_append]; rfl)]
     rw [show (l).length + 1 = (l ++ [t86]).length from (by rw [List.length_append]; rfl)] at hc88; refine JL_nSnoc (f := true) (l := l) t86 am am ?_; refine JL_a ?_; refine JL_nu 114 [box _ _ [_, _, _], box _ _ [_, _, _], osl _ _ _ _ _ _, osl _ _ _ _ _ _] [_, _, _, _, _, _, _, _, _, _, _] ?_; refine JE_midS (l ++ [t86], ad88, cap88) kr ?_ kr ?_
     · exact ⟨⟨[t86], rfl, he86.symm, Nat.le_refl _⟩, (fun x hx => (List.mem_append.1 hx).elim (hF x) (fun h => by rw [List.mem_singleton.1 h]; exact hf86)), hc88⟩
     · exact subset_app (subset_cons am subset_nil) (ssS (ssS (ssS ss0)))
    ·have h83 := of_decide_eq_false hb
     refine JC_skip ?_; refine JE_midS (l, ad3, c3) kr ?_ kr ?_
     · exact ⟨⟨[], (List.append_nil l).symm, (grp_er0 om).symm, Nat.zero_le _⟩, hF, hc3⟩
     · exact subset_app (subset_cons am subset_nil) ss0
   intro u i hC; obtain ⟨l2, ad4, c4⟩ := i; obtain ⟨⟨g, hl2, hG, hg1⟩, hF1, hc4⟩ := hC; refine JC_nm 114 [box _ _ [_, _, _], box _ _ [_, _, _], osl _ _ _ _ _ _, osl _ _ _ _ _ _] [_, _, _, _, _, _, _, _, _] ?_; subst hl2
   have hgN : nA g = nA (byA (inI R) 2 (t.kids)) := nA_grp hG
   have hlg : (l ++ g).length = l.length + g.length := List.length_append
   have hlg2 := nA_app l g
   have hgL := nA_ge (l := g) (fun x hx => hF1 x (List.mem_append_right _ hx))
   refine JC_seq ?_; refine JC_sr ?_; refine JL_m ?_; refine JL_len sl64 rfl ?_; refine JL_gtr rfl rfl ?_; refine JL_dv 114 ?_; refine JC_cutT ((List AT) × (Option Addr) × (Nat)) (fun (l', ad5, c5) => togL (inI R) (t.kids.map er) = some (l'.map er) ∧ (∀ x ∈ l', Fit x) ∧ l'.length ≤ 1000 ∧ (l'.length ≤ c5 ∧ c5 ≤ 9223372036854775807)) (fun u (l', ad5, c5) => (rn 5 (some (u 5) :: rn 4 (some (.slice ad5 l'.length c5) :: rn 2 (sc u 13 2 (rn 77 (sc u 92 15 []))))))) (fun (l', ad5, c5) => (rn 3 [some (osl ad5 l'.length c5 66 3 (ncL l'))])) (fun (l', ad5, c5) => [(true, vNs l')]) ?_ ?_
   ·refine JC_cond rfl (fun hb => ?_) (fun hb => ?_)
    ·have h91 := of_decide_eq_true hb
     refine JC_sr ?_; refine JL_m ?_; refine JL_indexAddr 1 sl64 rfl rfl rfl om rdg (by rw [ncL_len]; omega) ?_; refine JL_loadEA (vs := [_, _, _]) ty66 zp rfl rdg (ncL_getA om) ?_; refine JL_m ?_; refine JL_callA' true (AsksA.cons (holdsA_of_mem am) (AsksA.cons (holdsA_of_mem am) AsksA.nil)) (conNA (rside_con hR ((byA (inI R) 1 (t.kids)).getD 1 default) (fitK hf _ (byA_mem (S := (inI R)) (s := 1) (at_mem (l := byA (inI R) 1 (t.kids)) (i := 1) om))) (by have := nA_mem (byA_mem (S := (inI R)) (s := 1) (at_mem (l := byA (inI R) 1 (t.kids)) (i := 1) om)); omega)) (byA_mem (S := (inI R)) (s := 1) (at_mem (l := byA (inI R) 1 (t.kids)) (i := 1) om))) rfl ca102 ⟨rfl, rfl, rfl⟩ ?_; rintro _ _ ⟨o97, ad97, c97, b97, rfl, hc97, rfl, hf97, hl97⟩; refine JL_m ?_; refine JL_extract (v := .slice ad97 o97.length c97) rfl rfl ?_; refine JL_extract (v := .bool b97) rfl rfl ?_; refine JL_a ?_; refine JL_a ?_
     refine JL_du 114 [box _ _ [_, _, _], box _ _ [_, _, _], osl _ _ _ _ _ _, osl _ _ _ _ _ _] [_, _, _, _, _, _, _, _, _, _, _] ?_; refine JC_seq ?_; refine JC_sr ?_; refine JL_m ?_; refine JL_not rfl ?_; refine JL_dv 114 ?_; refine JC_cond rfl (fun hb => ?_) (fun hb => ?_)
     ·have h101 := hb
      refine JC_sr ?_; refine JL_build (cs := [_, _, _]) [] st66 rfl rfl ?_; refine JL_store (vs := [_, _, _]) 1 ty66 rfl rfl rfl ao3 rfl bleq ?_; refine JL_a ?_; refine JL_du 114 [box _ _ [_, _, _], box _ _ [_, _, _], osl _ _ _ _ _ _, osl _ _ _ _ _ _] [_, _, _, _, _, _, _, _, _, _, _] ?_; refine JC_ret ?_; refine JE_then_ret ?_; refine JE_midS_ret ?_; refine JE_nLeaf (n := 0) ?_; refine JE_ret (vs := [_, _]) [vN (nw 0 false none 0 [])] Tryz.results69 ⟨RV.cell (vs := [_, _, _]) 1 ty66 rfl rfl ⟨rfl, rfl, rfl, trivial⟩, rfl, rfl⟩ ?_ ?_
      · exact ⟨nw 0 false none 0 [], false, rfl, rfl, .not (tog_no1 om (by rw [hl97, show b97 = false from by cases b97 with | false => rfl | true => exact absurd h101 (by decide)]; rfl))⟩
      · exact (all_cons am all_nil)
     ·have h101 := hb
      refine JC_skip ?_; refine JE_then ?_; refine JC_region ?_; refine JL_m ?_; refine JL_m ?_; obtain rfl : b97 = true := by cases b97 with | true => rfl | false => exact absurd h101 (by decide)
      replace hl97 : lin (inI R) (er ((byA (inI R) 1 (t.kids)).getD 1 default)) = some (o97.map er) := hl97
      have hN97 : nA o97 = _ := lin_nl (fitK hf _ (byA_mem (S := (inI R)) (s := 1) (at_mem (l := byA (inI R) 1 (t.kids)) (i := 1) om))).ok hl97
      have hoL2 := nA_ge hf97
      have hbj := nA_mem (byA_mem (S := (inI R)) (s := 1) (at_mem (l := byA (inI R) 1 (t.kids)) (i := 1) om))
      have hbk : nA ((byA (inI R) 1 (t.kids)).take 2) = _ := nA_take (l := byA (inI R) 1 (t.kids)) (i := 1) om
      have hbl := nA_le (byA (inI R) 1 (t.kids)) 2
      refine JL_callA' true (AsksA.cons (holdsA_of_mem am) AsksA.nil) (rturn_con (ks := o97) om) rfl ca78 ⟨rfl, rfl⟩ ?_; rintro _ _ ⟨ad105, c105, rfl, hc105, rfl⟩
      have hrl : o97.reverse.length = o97.length := List.length_reverse
      refine JL_append (news := ncL o97.reverse) 3 sl64 rfl (by decide) rfl rfl rfl (by rw [ncL_len]) (Reads.view am) (ncL_one _) om om (fun ad106 cap106 hc106 => ?_); refine JL_norm _ [box _ _ [_, _, _], box _ _ [_, _, _], osl _ _ _ _ _ _, osl _ _ _ _ _ _] [_, _, _, _, _, _, _, _, _, _, _, _] rfl rfl rfl ?_; rw [ncL_app, ← List.length_append]; rw [← List.length_append] at hc106; refine JL_nSub (f := true) (l := o97) (m := o97.reverse) am (fun x hx => List.mem_reverse.1 hx) ?_; refine JL_nApp (f := true) (l := l ++ g) (m := o97.reverse) am am ?_
      have hlb : ((l ++ g) ++ o97.reverse).length = l.length + g.length + o97.length := by rw [List.length_append, List.length_append, hrl]
      refine JL_a ?_; refine JL_nu 114 [box _ _ [_, _, _], box _ _ [_, _, _], osl _ _ _ _ _ _, osl _ _ _ _ _ _] [_, _, _, _, _, _, _, _, _, _, _, _, _, _] ?_; refine JE_midS ((l ++ g) ++ o97.reverse, ad106, cap106) kr ?_ kr ?_
      · exact ⟨togL_two hT om hG hl97, (fun x hx => (List.mem_append.1 hx).elim (hF1 x) (fun h => hf97 x (List.mem_reverse.1 h))), by omega, hc106⟩
      · exact subset_app (subset_cons am subset_nil) (ssS (ssS (ssS (ssS (ssS ss0)))))
    ·have h91 := of_decide_eq_false hb
     refine JC_skip ?_; refine JE_midS (l ++ g, ad4, c4) kr ?_ kr ?_
     · exact ⟨togL_less hT om hG, hF1, by omega, hc4⟩
     · exact subset_app (subset_cons am subset_nil) ss0
   intro u i hC; obtain ⟨l', ad5, c5⟩ := i; obtain ⟨hT2, hF2, hN2, hc5⟩ := hC; refine JC_nm 114 [box _ _ [_, _, _], box _ _ [_, _, _], osl _ _ _ _ _ _, osl _ _ _ _ _ _] [_, _, _, _, _, _, _, _, _, _] ?_; refine JC_sr ?_; refine JL_m ?_; refine JL_give 3 rfl ?_; refine JL_norm _ [box _ _ [_, _, _], box _ _ [_, _, _], osl _ _ _ _ _ _] [_, _, _, _, _, _, _, _, _, _, _] rfl rfl rfl ?_
   have hne := List.length_pos_iff.2 (fun e : l' = [] => togL_ne (fitK hf) h0 hT2 (by rw [e]; rfl))
   refine JL_callA' true (AsksA.cons (holdsA_of_mem am) (AsksA.cons (holdsA_of_mem am) AsksA.nil)) (rline_con hc5.1 hN2 hne hF2) rfl ca103 ⟨rfl, rfl⟩ ?_; rintro _ _ ⟨t108, rfl, rfl, hf108, he108⟩; refine JL_alloc z66 (fun b15 => ?_); refine JL_store (vs := [_, _, _]) 3 ty66 rfl rfl rfl ao3 rfl bleq ?_; refine JL_du 114 [box _ _ [_, _, _], box _ _ [_, _, _], osl _ _ _ _ _ _, box _ _ [_, _, _]] [_, _, _, _, _, _, _, _, _, _, _, _] ?_; refine JC_sr ?_; refine JL_m ?_; refine JL_loadA (vs := [_, _, _]) 3 ty66 rfl rfl ⟨rfl, rfl, rfl, trivial⟩ ?_; refine JL_buildN (cs0 := [.int .i64 0, .int .i64 0, .slice none 0 0]) (cs := [_, _, _]) [(0, [_, _, _])] sl64 kr ⟨⟨rfl, _, rfl, rfl⟩, rfl⟩ rfl rfl rfl rfl (fun g111 => ?_); refine JL_norm _ [box _ _ [_, _, _], box _ _ [_, _, _], osl _ _ _ _ _ _, box _ _ [_, _, _], osl _ _ _ _ _ (ncL [t108])] [_, _, _, _, _, _, _, _, _, _, _, _] rfl rfl rfl ?_; refine JL_append (news := ncL [t108]) 2 sl64 rfl (by decide) rfl rfl rfl (by rw [ncL_len]; rfl) (Reads.own 4 rfl) (ncL_one _) om om (fun ad112 cap112 hc112 => ?_)
   refine JL_dropAt 4 ?_; refine JL_norm _ [box _ _ [_, _, _], box _ _ [_, _, _], osl _ _ _ _ _ _, box _ _ [_, _, _]] [_, _, _, _, _, _, _, _, _, _, _, _] rfl rfl rfl ?_; rw [ncL_app, show (byA (inI R) 0 (t.kids)).length + 1 = (byA (inI R) 0 (t.kids) ++ [t108]).length from (by rw [List.length_append]; rfl)]; rw [show (byA (inI R) 0 (t.kids)).length + 1 = (byA (inI R) 0 (t.kids) ++ [t108]).length from (by rw [List.length_append]; rfl)] at hc112; refine JL_nSub (f := true) (l := t.kids) (m := byA (inI R) 0 (t.kids)) am (fun x hx => byA_mem hx) ?_; refine JL_nSnoc (f := true) (l := byA (inI R) 0 (t.kids)) t108 am am ?_; refine JL_give 2 rfl ?_; refine JL_norm _ [box _ _ [_, _, _], box _ _ [_, _, _], box _ _ [_, _, _]] [_, _, _, _, _, _, _, _, _, _, _, _, _, _, _] rfl rfl rfl ?_
   have hb0s := by0_some (S := (inI R)) t.kids
   have hbn := byA_len (inI R) 0 t.kids
   have hzl : (byA (inI R) 0 (t.kids) ++ [t108]).length = (byA (inI R) 0 (t.kids)).length + 1 := by rw [List.length_append]; rfl
   have hb0 := nA_ge (l := byA (inI R) 0 (t.kids)) (fun k hk => fitK hf k (byA_mem hk))
   have hl0' := nA_ge hF2
   refine JL_callA' true (AsksA.cons (holdsA_of_mem am) (AsksA.cons (holdsA_of_mem am) AsksA.nil)) (rgroup_con hc112.1 om om (fun x hx => (List.mem_append.1 hx).elim (fun h => fitK hf x (byA_mem h)) (fun h => by rw [List.mem_singleton.1 h]; exact hf108))) rfl ca36 ⟨rfl, rfl⟩ ?_; rintro _ _ ⟨t113, rfl, rfl, hf113, he113⟩; refine JL_store (vs := [_, _, _]) 1 ty66 rfl rfl rfl ao3 rfl bleq ?_; refine JL_a ?_; refine JL_du 114 [box _ _ [_, _, _], box _ _ [_, _, _], box _ _ [_, _, _]] [_, _, _, _, _, _, _, _, _, _, _, _, _, _, _, _] ?_; refine JC_ret ?_; refine JE_ret (vs := [_, _]) [vN t113] Tryz.results69 ⟨RV.cell (vs := [_, _, _]) 1 ty66 rfl rfl ⟨rfl, rfl, rfl, trivial⟩, rfl, rfl⟩ ?_ ?_
   · exact ⟨t113, true, rfl, rfl, .same hf113 (tog_yes hT2 he108 he113)⟩
   · exact (all_cons am all_nil)

end Go.Fw.K
