/- Walks through functions of the given program: each meets its contract. (Printed by a program of this repo.) -/
import Derived.Test.YtjdojhhngganeaaGreatDoorD1
import Derived.Test.YtjdojhhngganeaaGreatDoorDgE
import Derived.Test.YtjdojhhngganeaaGreatDoorDgC
import Derived.Test.YtjdojhhngganeaaGreatDoorProg
namespace Go.Fw.D2
open Go Go.RowKit Go.Proofs Go.Nat9 Go.Fw
attribute [local irreducible] JC JL JE
theorem ca137 : callable Tryz.prog 137 = true := by kernel_rfl
theorem ca55 : callable Tryz.prog 55 = true := by kernel_rfl
theorem ca56 : callable Tryz.prog 56 = true := by kernel_rfl
theorem ca57 : callable Tryz.prog 57 = true := by kernel_rfl
theorem ca69 : callable Tryz.prog 69 = true := by kernel_rfl
theorem mixed : Tryz.prog.follows .mixedOrders = true := by kernel_rfl
theorem sl22 : slOf Tryz.prog 22 = some (53, 2, 16, [.int .i64 0, .int .i64 0]) := by kernel_rfl
theorem sl82 : slOf Tryz.prog 82 = some (95, 1, 4, [.int .u32 0]) := by kernel_rfl
theorem ty53 : tyOf Tryz.prog 53 = some (true, 2) := by kernel_rfl
theorem ty95 : tyOf Tryz.prog 95 = some (false, 1) := by kernel_rfl
end Go.Fw.D2
namespace Go.Fw.K
open Go Go.RowKit Go.Proofs Go.Nat9 Go.Fw Go.Fw.D2
attribute [local irreducible] JC JL JE

theorem cls_con {ad : Option Addr} {c : Nat} {l : List Pr} {n : Int} (hln : l.length ≤ 1000000) :
    ConF Tryz.prog 25 [.int .i64 n, .slice ad l.length c] [vCells ad (pcells l)]
      (SPP (clsR n l) (clsE n l)) := by
  refine ConF_of Tryz.func25 rfl 14 _ rfl rfl ?_; intro w0; refine JC_norm ⟨14, [], [_, _, _, _, _, _, _, _, _, _, _, _, _, _]⟩ [] [_] rfl rfl rfl ?_; refine JC_sr ?_; refine JL_assign rfl ?_; refine JL_assign rfl ?_; refine JL_du 14 [] [_] ?_; refine JC_seq ?_; refine JC_sr ?_; refine JL_m ?_; refine JL_m ?_; refine JL_callF' (Asks.cons (holds_of_mem am) Asks.nil) (pval_con hln) rfl ca55 ⟨rfl, rfl, rfl⟩ ?_; rintro _ _ ⟨rfl, rfl⟩; refine JL_split (fun h8 => ?_) (fun h8 => ?_)
  · refine JL_not rfl ?_; rw [Bool.not_true]; refine JL_du 14 [] [_] ?_; refine JC_false rfl ?_; refine JC_skip ?_; refine JE_then ?_; refine JC_seq ?_; obtain ⟨m, rfl⟩ : ∃ m : Nat, n = (m : Int) := ⟨n.toNat, by have := h8.1.1; omega⟩
    have hm24 : m ≤ 24 := by have := h8.1; omega
    have hrl := reachL_len m l
    have hrb := reachL_bnd h8
    refine JC_region ?_; refine JL_m ?_; refine JL_m ?_; refine JL_callF' (Asks.cons (holds_of_mem am) Asks.nil) (reach_con h8 hln) rfl ca57 ⟨rfl, rfl, rfl⟩ ?_; rintro _ _ ⟨ad12, c12, rfl, rfl⟩; refine JL_callF' (Asks.cons (holds_of_mem am) Asks.nil) (plist_con hrl hm24 hrb) rfl ca56 ⟨rfl, rfl⟩ ?_; rintro _ _ ⟨ad13, c13, rfl, hc13, rfl⟩; refine JL_assign rfl ?_; refine JL_assign rfl ?_; refine JL_du 14 [] [_, _, _] ?_; refine JC_ret ?_; refine JE_ret (vs := [_, _]) [vCells ad13 (pcells (lstL (reachL m l) m))] Tryz.results25 ⟨rfl, rfl, rfl⟩ ?_ ?_
    · rw [(cls_ok h8).1, (cls_ok h8).2]; exact ⟨ad13, c13, rfl, hc13, rfl⟩
    · exact (all_cons am all_nil)
  · refine JL_not rfl ?_; rw [Bool.not_false]; refine JL_du 14 [] [_] ?_; refine JC_true rfl ?_; refine JC_sr ?_; refine JL_assign rfl ?_; refine JL_assign rfl ?_; refine JL_du 14 [] [_] ?_; refine JC_ret ?_; refine JE_then_ret ?_; refine JE_addView (f := true) (p := vCells none (pcells [])) (fun _ _ => nilP) ?_; refine JE_ret (vs := [_, _]) [vCells none (pcells [])] Tryz.results25 ⟨rfl, rfl, rfl⟩ ?_ ?_
    · rw [(cls_no h8).1, (cls_no h8).2]; exact ⟨none, 0, rfl, caps0, rfl⟩
    · exact (all_cons am all_nil)

theorem pcyc_con {ad : Option Addr} {c : Nat} {l : List Pr} {n : Int} (hln : l.length ≤ 1000000) :
    ConF Tryz.prog 119 [.int .i64 n, .slice ad l.length c] [vCells ad (pcells l)]
      (fun v φo => v = .bool (decide (cycC n l)) ∧ φo = []) := by
  refine ConF_of Tryz.func119 rfl 14 _ rfl rfl ?_; intro w0; refine JC_norm ⟨14, [], [_, _, _, _, _, _, _, _, _, _, _, _, _, _]⟩ [] [_] rfl rfl rfl ?_; refine JC_sr ?_; refine JL_assign rfl ?_; refine JL_du 14 [] [_] ?_; refine JC_seq ?_
  rcases Classical.em (dgC n l) with hv | hv
  · obtain ⟨m, rfl⟩ : ∃ m : Nat, n = (m : Int) := ⟨n.toNat, by have := hv.1.1; omega⟩
    have hm24 : m ≤ 24 := by have := hv.1; omega
    have hrl := reachL_len m l
    have hrb := reachL_bnd hv
    refine JC_region ?_; refine JL_m ?_; refine JL_m ?_; refine JL_callF' (Asks.cons (holds_of_mem am) Asks.nil) (pval_con hln) rfl ca55 ⟨rfl, rfl, rfl⟩ ?_; rintro _ _ ⟨rfl, rfl⟩; rw [decide_eq_true hv]; refine JL_m ?_; refine JL_gy ?_; refine JL_m ?_; refine JL_gy ?_; refine JL_m ?_; refine JL_gy ?_; refine JL_callF' (Asks.cons (holds_of_mem am) Asks.nil) (reach_con hv hln) rfl ca57 ⟨rfl, rfl, rfl⟩ ?_; rintro _ _ ⟨ad11, c11, rfl, rfl⟩; refine JL_gy ?_; refine JL_callF' (Asks.cons (holds_of_mem am) Asks.nil) (acyc_con hrl hm24 hrb) rfl ca137 ⟨rfl, rfl⟩ ?_; rintro _ _ ⟨rfl, rfl⟩; refine JL_pick_t rfl rfl ?_; refine JL_assign rfl ?_; refine JL_du 14 [] [_, _] ?_; refine JC_ret ?_; refine JE_ret (vs := [_]) [] Tryz.results119 ⟨rfl, rfl⟩ ?_ ?_
    · rw [show decide (acyL (reachL m l)) = decide (cycC (m : Int) l) from decide_eq_decide.2 ⟨fun h => ⟨hv, h⟩, fun h => h.2⟩]; exact ⟨rfl, rfl⟩
    · exact all_nil
  · refine JC_region ?_; refine JL_m ?_; refine JL_m ?_; refine JL_callF' (Asks.cons (holds_of_mem am) Asks.nil) (pval_con hln) rfl ca55 ⟨rfl, rfl, rfl⟩ ?_; rintro _ _ ⟨rfl, rfl⟩; rw [decide_eq_false hv]; refine JL_m ?_; refine JL_gn ?_; refine JL_gn ?_; refine JL_gn ?_; refine JL_gn ?_; refine JL_pick_f rfl rfl ?_; refine JL_assign rfl ?_; refine JL_du 14 [] [_] ?_; refine JC_ret ?_; refine JE_ret (vs := [_]) [] Tryz.results119 ⟨rfl, rfl⟩ ?_ ?_
    · rw [decide_eq_false (p := cycC n l) (fun h => hv h.1)]; exact ⟨rfl, rfl⟩
    · exact all_nil

set_option maxHeartbeats 1000000 in
theorem reaches_con {ad : Option Addr} {c : Nat} {l : List Pr} {n a b : Int} (hln : l.length ≤ 1000000) :
    ConF Tryz.prog 33 [.int .i64 n, .slice ad l.length c, .int .i64 a, .int .i64 b] [vCells ad (pcells l)]
      (fun v φo => v = .bool (decide (rchC n l a b)) ∧ φo = []) := by
  refine ConF_of Tryz.func33 rfl 40 _ rfl rfl ?_; intro w0; refine JC_norm ⟨40, [], [_, _, _, _, _, _, _, _, _, _, _, _, _, _, _, _, _, _, _, _, _, _, _, _, _, _, _, _, _, _, _, _, _, _, _, _, _, _, _, _]⟩ [] [_] rfl rfl rfl ?_; refine JC_sr ?_; refine JL_assign rfl ?_; refine JL_du 40 [] [_] ?_; refine JC_seq ?_
  rcases rch6 n l a b with hv | ⟨hv, ha⟩ | ⟨hv, ha, hb⟩ | ⟨hv, ha, hb, hc⟩ | ⟨hv, ha, hb, hc, he⟩ | ⟨hv, ha, hb, hc, he⟩
  · refine JC_region ?_; refine JL_m ?_; refine JL_m ?_; refine JL_callF' (Asks.cons (holds_of_mem am) Asks.nil) (pval_con hln) rfl ca55 ⟨rfl, rfl, rfl⟩ ?_; rintro _ _ ⟨rfl, rfl⟩; rw [decide_eq_false hv]; refine JL_m ?_; refine JL_gn ?_; refine JL_gn ?_; refine JL_pick_f rfl rfl ?_; refine JL_m ?_; refine JL_gn ?_; refine JL_gn ?_; refine JL_gn ?_; refine JL_pick_f rfl rfl ?_; refine JL_m ?_; refine JL_gn ?_; refine JL_gn ?_; refine JL_pick_f rfl rfl ?_; refine JL_m ?_; refine JL_gn ?_; refine JL_gn ?_; refine JL_gn ?_; refine JL_pick_f rfl rfl ?_; refine JL_m ?_; refine JL_gn ?_; refine JL_gn ?_; refine JL_gn ?_; refine JL_gn ?_; refine JL_gn ?_; refine JL_gn ?_; refine JL_gn ?_; refine JL_gn ?_; refine JL_pick_f rfl rfl ?_; refine JL_assign rfl ?_; refine JL_du 40 [] [_] ?_; refine JC_ret ?_; refine JE_ret (vs := [_]) [] Tryz.results33 ⟨rfl, rfl⟩ ?_ ?_
    · rw [decide_eq_false (p := rchC n l a b) (fun h => hv h.1)]; exact ⟨rfl, rfl⟩
    · exact all_nil
  · refine JC_region ?_; refine JL_m ?_; refine JL_m ?_; refine JL_callF' (Asks.cons (holds_of_mem am) Asks.nil) (pval_con hln) rfl ca55 ⟨rfl, rfl, rfl⟩ ?_; rintro _ _ ⟨rfl, rfl⟩; rw [decide_eq_true hv]; refine JL_m ?_; refine JL_gy ?_; refine JL_m ?_; refine JL_gy ?_; refine JL_geq rfl rfl ?_; rw [decide_eq_false (p := 0 ≤ a) (by omega)]; refine JL_pick_t rfl rfl ?_; refine JL_m ?_; refine JL_gn ?_; refine JL_gn ?_; refine JL_gn ?_; refine JL_pick_f rfl rfl ?_; refine JL_m ?_; refine JL_gn ?_; refine JL_gn ?_; refine JL_pick_f rfl rfl ?_; refine JL_m ?_; refine JL_gn ?_; refine JL_gn ?_; refine JL_gn ?_; refine JL_pick_f rfl rfl ?_; refine JL_m ?_; refine JL_gn ?_; refine JL_gn ?_; refine JL_gn ?_; refine JL_gn ?_; refine JL_gn ?_; refine JL_gn ?_; refine JL_gn ?_; refine JL_gn ?_; refine JL_pick_f rfl rfl ?_; refine JL_assign rfl ?_; refine JL_du 40 [] [_] ?_; refine JC_ret ?_; refine JE_ret (vs := [_]) [] Tryz.results33 ⟨rfl, rfl⟩ ?_ ?_
    · rw [decide_eq_false (p := rchC n l a b) (fun h => absurd h.2.1 (by omega))]; exact ⟨rfl, rfl⟩
    · exact all_nil
  · refine JC_region ?_; refine JL_m ?_; refine JL_m ?_; refine JL_callF' (Asks.cons (holds_of_mem am) Asks.nil) (pval_con hln) rfl ca55 ⟨rfl, rfl, rfl⟩ ?_; rintro _ _ ⟨rfl, rfl⟩; rw [decide_eq_true hv]; refine JL_m ?_; refine JL_gy ?_; refine JL_m ?_; refine JL_gy ?_; refine JL_geq rfl rfl ?_; rw [decide_eq_true (p := 0 ≤ a) (by omega)]; refine JL_pick_t rfl rfl ?_; refine JL_m ?_; refine JL_gy ?_; refine JL_m ?_; refine JL_gy ?_; refine JL_m ?_; refine JL_gy ?_; refine JL_lss rfl rfl ?_; rw [decide_eq_false (p := a < n) (by omega)]; refine JL_pick_t rfl rfl ?_; refine JL_m ?_; refine JL_gn ?_; refine JL_gn ?_; refine JL_pick_f rfl rfl ?_; refine JL_m ?_; refine JL_gn ?_; refine JL_gn ?_; refine JL_gn ?_; refine JL_pick_f rfl rfl ?_; refine JL_m ?_; refine JL_gn ?_; refine JL_gn ?_; refine JL_gn ?_; refine JL_gn ?_; refine JL_gn ?_; refine JL_gn ?_; refine JL_gn ?_; refine JL_gn ?_; refine JL_pick_f rfl rfl ?_; refine JL_assign rfl ?_; refine JL_du 40 [] [_] ?_; refine JC_ret ?_; refine JE_ret (vs := [_]) [] Tryz.results33 ⟨rfl, rfl⟩ ?_ ?_
    · rw [decide_eq_false (p := rchC n l a b) (fun h => absurd h.2.1 (by omega))]; exact ⟨rfl, rfl⟩
    · exact all_nil
  · refine JC_region ?_; refine JL_m ?_; refine JL_m ?_; refine JL_callF' (Asks.cons (holds_of_mem am) Asks.nil) (pval_con hln) rfl ca55 ⟨rfl, rfl, rfl⟩ ?_; rintro _ _ ⟨rfl, rfl⟩; rw [decide_eq_true hv]; refine JL_m ?_; refine JL_gy ?_; refine JL_m ?_; refine JL_gy ?_; refine JL_geq rfl rfl ?_; rw [decide_eq_true (p := 0 ≤ a) (by omega)]; refine JL_pick_t rfl rfl ?_; refine JL_m ?_; refine JL_gy ?_; refine JL_m ?_; refine JL_gy ?_; refine JL_m ?_; refine JL_gy ?_; refine JL_lss rfl rfl ?_; rw [decide_eq_true (p := a < n) (by omega)]; refine JL_pick_t rfl rfl ?_; refine JL_m ?_; refine JL_gy ?_; refine JL_m ?_; refine JL_gy ?_; refine JL_geq rfl rfl ?_; rw [decide_eq_false (p := 0 ≤ b) (by omega)]; refine JL_pick_t rfl rfl ?_; refine JL_m ?_; refine JL_gn ?_; refine JL_gn ?_; refine JL_gn ?_; refine JL_pick_f rfl rfl ?_; refine JL_m ?_; refine JL_gn ?_; refine JL_gn ?_; refine JL_gn ?_; refine JL_gn ?_; refine JL_gn ?_; refine JL_gn ?_; refine JL_gn ?_; refine JL_gn ?_; refine JL_pick_f rfl rfl ?_; refine JL_assign rfl ?_; refine JL_du 40 [] [_] ?_; refine JC_ret ?_
    refine JE_ret (vs := [_]) [] Tryz.results33 ⟨rfl, rfl⟩ ?_ ?_
    · rw [decide_eq_false (p := rchC n l a b) (fun h => absurd h.2.2.1 (by omega))]; exact ⟨rfl, rfl⟩
    · exact all_nil
  · refine JC_region ?_; refine JL_m ?_; refine JL_m ?_; refine JL_callF' (Asks.cons (holds_of_mem am) Asks.nil) (pval_con hln) rfl ca55 ⟨rfl, rfl, rfl⟩ ?_; rintro _ _ ⟨rfl, rfl⟩; rw [decide_eq_true hv]; refine JL_m ?_; refine JL_gy ?_; refine JL_m ?_; refine JL_gy ?_; refine JL_geq rfl rfl ?_; rw [decide_eq_true (p := 0 ≤ a) (by omega)]; refine JL_pick_t rfl rfl ?_; refine JL_m ?_; refine JL_gy ?_; refine JL_m ?_; refine JL_gy ?_; refine JL_m ?_; refine JL_gy ?_; refine JL_lss rfl rfl ?_; rw [decide_eq_true (p := a < n) (by omega)]; refine JL_pick_t rfl rfl ?_; refine JL_m ?_; refine JL_gy ?_; refine JL_m ?_; refine JL_gy ?_; refine JL_geq rfl rfl ?_; rw [decide_eq_true (p := 0 ≤ b) (by omega)]; refine JL_pick_t rfl rfl ?_; refine JL_m ?_; refine JL_gy ?_; refine JL_m ?_; refine JL_gy ?_; refine JL_m ?_; refine JL_gy ?_; refine JL_lss rfl rfl ?_; rw [decide_eq_false (p := b < n) (by omega)]; refine JL_pick_t rfl rfl ?_; refine JL_m ?_; refine JL_gn ?_; refine JL_gn ?_; refine JL_gn ?_; refine JL_gn ?_; refine JL_gn ?_; refine JL_gn ?_; refine JL_gn ?_; refine JL_gn ?_
    refine JL_pick_f rfl rfl ?_; refine JL_assign rfl ?_; refine JL_du 40 [] [_] ?_; refine JC_ret ?_; refine JE_ret (vs := [_]) [] Tryz.results33 ⟨rfl, rfl⟩ ?_ ?_
    · rw [decide_eq_false (p := rchC n l a b) (fun h => absurd h.2.2.1 (by omega))]; exact ⟨rfl, rfl⟩
    · exact all_nil
  · obtain ⟨m, rfl⟩ : ∃ m : Nat, n = (m : Int) := ⟨n.toNat, by have := hv.1.1; omega⟩
    have hm24 : m ≤ 24 := by have := hv.1; omega
    have hrl := reachL_len m l
    have hrb := reachL_bnd hv
    obtain ⟨i, rfl⟩ : ∃ i : Nat, a = (i : Int) := ⟨a.toNat, by omega⟩; obtain ⟨j, rfl⟩ : ∃ j : Nat, b = (j : Int) := ⟨b.toNat, by omega⟩; refine JC_region ?_; refine JL_m ?_; refine JL_m ?_; refine JL_callF' (Asks.cons (holds_of_mem am) Asks.nil) (pval_con hln) rfl ca55 ⟨rfl, rfl, rfl⟩ ?_; rintro _ _ ⟨rfl, rfl⟩; rw [decide_eq_true hv]; refine JL_m ?_; refine JL_gy ?_; refine JL_m ?_; refine JL_gy ?_; refine JL_geq rfl rfl ?_; rw [decide_eq_true (p := 0 ≤ (i : Int)) (by omega)]; refine JL_pick_t rfl rfl ?_; refine JL_m ?_; refine JL_gy ?_; refine JL_m ?_; refine JL_gy ?_; refine JL_m ?_; refine JL_gy ?_; refine JL_lss rfl rfl ?_; rw [decide_eq_true (p := (i : Int) < (m : Int)) (by omega)]; refine JL_pick_t rfl rfl ?_; refine JL_m ?_; refine JL_gy ?_; refine JL_m ?_; refine JL_gy ?_; refine JL_geq rfl rfl ?_; rw [decide_eq_true (p := 0 ≤ (j : Int)) (by omega)]; refine JL_pick_t rfl rfl ?_; refine JL_m ?_; refine JL_gy ?_; refine JL_m ?_; refine JL_gy ?_; refine JL_m ?_; refine JL_gy ?_; refine JL_lss rfl rfl ?_; rw [decide_eq_true (p := (j : Int) < (m : Int)) (by omega)]; refine JL_pick_t rfl rfl ?_
    refine JL_m ?_; refine JL_gy ?_; refine JL_m ?_; refine JL_gy ?_; refine JL_m ?_; refine JL_gy ?_; refine JL_callF' (Asks.cons (holds_of_mem am) Asks.nil) (reach_con hv hln) rfl ca57 ⟨rfl, rfl, rfl⟩ ?_; rintro _ _ ⟨ad33, c33, rfl, rfl⟩; refine JL_gy ?_; refine JL_m ?_; refine JL_gy ?_; refine JL_idx i sl82 rfl rfl rfl (by omega) (by first | exact Reads.view am) (by rw [u32s_length]; omega) ?_; refine JL_gy ?_; refine JL_loadE ty95 rfl (by first | exact Reads.view am) (u32s_get (by omega)) ?_; refine JL_gy ?_; refine JL_m ?_; refine JL_gy ?_; refine JL_callF' Asks.nil (bit_con (s := (reachL m l).getD i 0) (b := j) (lt24 hm24 (hrb i)) (by omega)) rfl ca69 ⟨rfl, rfl, rfl⟩ ?_; rintro _ _ ⟨rfl, rfl⟩; refine JL_pick_t rfl rfl ?_; refine JL_assign rfl ?_; refine JL_du 40 [] [_, _] ?_; refine JC_ret ?_; refine JE_ret (vs := [_]) [] Tryz.results33 ⟨rfl, rfl⟩ ?_ ?_
    · rw [rch_eq hv (by omega) (by omega)]; exact ⟨rfl, rfl⟩
    · exact all_nil

theorem barcs_con {ad1 ad2 : Option Addr} {c1 c2 : Nat} {l : List Pr} (hln : l.length ≤ 1000000) :
    ConF Tryz.prog 18 [.slice ad1 l.length c1, .slice ad2 l.length c2] [vCells ad1 (pcells l), vCells ad2 (pcells l)]
      (fun v φo => v = .bool (true) ∧ φo = []) := by
  refine ConF_of Tryz.func18 rfl 26 _ rfl rfl ?_; intro w0; refine JC_norm ⟨26, [], [_, _, _, _, _, _, _, _, _, _, _, _, _, _, _, _, _, _, _, _, _, _, _, _, _, _]⟩ [] [_, _] rfl rfl rfl ?_; refine JC_sr ?_; refine JL_assign rfl ?_; refine JL_du 26 [] [_, _] ?_; refine JC_seq ?_; refine JC_sr ?_; refine JL_m ?_; refine JL_len sl22 rfl ?_; refine JL_m ?_; refine JL_len sl22 rfl ?_; refine JL_neq rfl rfl ?_; refine JL_split (fun h10 => ?_) (fun h10 => ?_)
  · exact absurd rfl h10
  · refine JL_du 26 [] [_, _] ?_; refine JC_false rfl ?_; refine JC_skip ?_; refine JE_then ?_; refine JC_seq ?_; refine JC_sr ?_; refine JL_assign rfl ?_; refine JL_du 26 [] [_, _] ?_; refine JC_block ?_; refine JC_loopS ((Nat)) (fun (k : Nat) => k ≤ l.length) (fun (k : Nat) => l.length - k) (fun u (k : Nat) => [none, none, none, none, some (u 4), some (.int .i64 (k : Nat)), none, none, none, none, none, some (u 11), some (u 12), some (u 13), some (u 14), some (u 15), some (u 16), some (u 17), some (u 18), some (u 19), some (u 20), some (u 21), some (u 22), some (u 23), some (u 24), some (u 25)]) (fun (k : Nat) => []) (fun (k : Nat) => []) (0) (by kernel_rfl) ?_ (by kernel_rfl) ?_ ?_
    · exact Nat.zero_le _
    · exact subset_nil
    intro u k hk; refine JC_nm 26 [] [_, _] ?_; refine JC_seq ?_; refine JC_sr ?_; refine JL_m ?_; refine JL_m ?_; refine JL_len sl22 rfl ?_; refine JL_lss rfl rfl ?_; refine JL_split (fun h14 => ?_) (fun h14 => ?_)
    · refine JL_du 26 [] [_, _] ?_; refine JC_true rfl ?_; refine JC_skip ?_; refine JE_then ?_; refine JC_seq ?_; refine JC_block ?_; refine JC_seq ?_; refine JC_drawT mixed 8 [spV 17 [] _, spV 18 [] _, spV 19 [0, 1] _, spV 20 [2] _, spV 21 [] _, spV 22 [] _, spV 23 [4, 5] _, spV 24 [6] _] ⟨oM, oM, OblS_V (fun vals ex ψ => (by refine JL_normQ _ (_ :: _ :: ψ) rfl rfl ?_; refine JL_indexAddr k sl22 rfl rfl rfl (by omega) (by first | exact Reads.view am) (by rw [pcells_length]; omega) ?_; exact vz rfl)), OblS_V (fun vals ex ψ => (by refine JL_normQ _ (_ :: _ :: ψ) rfl rfl ?_; refine JL_loadEA (vs := [_, _]) ty53 (Nat.zero_lt_succ _) rfl (by first | exact Reads.view am) (pcells_getA (by omega)) ?_; exact vz rfl)), oM, oM, OblS_V (fun vals ex ψ => (by refine JL_normQ _ (_ :: _ :: ψ) rfl rfl ?_; refine JL_indexAddr k sl22 rfl rfl rfl (by omega) (by first | exact Reads.view am) (by rw [pcells_length]; omega) ?_; exact vz rfl)), OblS_V (fun vals ex ψ => (by refine JL_normQ _ (_ :: _ :: ψ) rfl rfl ?_; refine JL_loadEA (vs := [_, _]) ty53 (Nat.zero_lt_succ _) rfl (by first | exact Reads.view am) (pcells_getA (by omega)) ?_; exact vz rfl)), trivial⟩ (by kernel_rfl) (fun vals bs => ?_)
      refine JL_normL [_] ⟨26, [(17, _), (18, _), (19, _), (20, _), (21, _), (22, _), (23, _), (24, _)], _⟩ [] [_, _] rfl rfl rfl rfl ?_; refine JL_neqP eqArc rfl rfl ?_; refine JL_split (fun h25 => ?_) (fun h25 => ?_)
      · exact absurd rfl h25
      · refine JL_du 26 [] [_, _] ?_; refine JC_false rfl ?_; refine JC_skip ?_; refine JE_block_normal ?_; refine JE_then ?_; refine JC_region ?_; refine JL_m ?_; refine JL_add_to rfl rfl (IntWalk.i64_in _ (by omega)) ?_; refine JL_assign rfl ?_; refine JL_nu 26 [] [_, _] ?_; refine JE_nextS (k + 1) (by kernel_rfl) ?_ ?_ (by kernel_rfl) ?_
        · exact (by omega : k + 1 ≤ l.length)
        · first | omega | (dsimp only; omega)
        · exact subset_app subset_nil ss0
    · refine JL_du 26 [] [_, _] ?_; refine JC_false rfl ?_; refine JC_exit ?_; refine JE_then_exit ?_; refine JE_nextS_exit ?_; refine JE_block_exit ?_; refine JE_then ?_; refine JC_sr ?_; refine JL_assign rfl ?_; refine JL_du 26 [] [_, _] ?_; refine JC_ret ?_; refine JE_ret (vs := [_]) [] Tryz.results18 ⟨rfl, rfl⟩ ?_ ?_
      · exact ⟨rfl, rfl⟩
      · exact all_nil

theorem many_con {ad : Option Addr} {c : Nat} {l : List Pr} {n : Int} :
    ConF Tryz.prog 23 [.int .i64 n, .slice ad l.length c] []
      (fun v φo => v = .bool (decide ((n ≤ 8 ∨ 10 < n) ∧ l.length ≤ 80)) ∧ φo = []) := by
  refine ConF_of Tryz.func23 rfl 16 _ rfl rfl ?_; intro w0; refine JC_norm ⟨16, [], [_, _, _, _, _, _, _, _, _, _, _, _, _, _, _, _]⟩ [] [] rfl rfl rfl ?_; refine JC_sr ?_; refine JL_assign rfl ?_; refine JL_du 16 [] [] ?_; refine JC_seq ?_
  rcases many3 n with hA | ⟨hA, hB⟩ | ⟨hA, hB⟩
  · refine JC_region ?_; refine JL_m ?_; refine JL_leq rfl rfl ?_; rw [decide_eq_true (p := n ≤ 8) (by omega)]; refine JL_m ?_; refine JL_gn ?_; refine JL_gn ?_; refine JL_pick_t rfl rfl ?_; refine JL_m ?_; refine JL_gy ?_; refine JL_m ?_; refine JL_gy ?_; refine JL_len sl22 rfl ?_; refine JL_gy ?_; refine JL_leq rfl rfl ?_; refine JL_split (fun h14 => ?_) (fun h14 => ?_)
    · refine JL_pick_t rfl rfl ?_; refine JL_assign rfl ?_; refine JL_du 16 [] [] ?_; refine JC_ret ?_; refine JE_ret (vs := [_]) [] Tryz.results23 ⟨rfl, rfl⟩ ?_ ?_
      · rw [show decide ((n ≤ 8 ∨ 10 < n) ∧ l.length ≤ 80) = true from decide_eq_true ⟨by omega, by omega⟩]; exact ⟨rfl, rfl⟩
      · exact all_nil
    · refine JL_pick_t rfl rfl ?_; refine JL_assign rfl ?_; refine JL_du 16 [] [] ?_; refine JC_ret ?_; refine JE_ret (vs := [_]) [] Tryz.results23 ⟨rfl, rfl⟩ ?_ ?_
      · rw [show decide ((n ≤ 8 ∨ 10 < n) ∧ l.length ≤ 80) = false from decide_eq_false (fun h => by omega)]; exact ⟨rfl, rfl⟩
      · exact all_nil
  · refine JC_region ?_; refine JL_m ?_; refine JL_leq rfl rfl ?_; rw [decide_eq_false (p := n ≤ 8) (by omega)]; refine JL_m ?_; refine JL_gy ?_; refine JL_m ?_; refine JL_gy ?_; refine JL_gtr rfl rfl ?_; rw [decide_eq_true (p := 10 < n) (by omega)]; refine JL_pick_f rfl rfl ?_; refine JL_m ?_; refine JL_gy ?_; refine JL_m ?_; refine JL_gy ?_; refine JL_len sl22 rfl ?_; refine JL_gy ?_; refine JL_leq rfl rfl ?_; refine JL_split (fun h14 => ?_) (fun h14 => ?_)
    · refine JL_pick_t rfl rfl ?_; refine JL_assign rfl ?_; refine JL_du 16 [] [] ?_; refine JC_ret ?_; refine JE_ret (vs := [_]) [] Tryz.results23 ⟨rfl, rfl⟩ ?_ ?_
      · rw [show decide ((n ≤ 8 ∨ 10 < n) ∧ l.length ≤ 80) = true from decide_eq_true ⟨by omega, by omega⟩]; exact ⟨rfl, rfl⟩
      · exact all_nil
    · refine JL_pick_t rfl rfl ?_; refine JL_assign rfl ?_; refine JL_du 16 [] [] ?_; refine JC_ret ?_; refine JE_ret (vs := [_]) [] Tryz.results23 ⟨rfl, rfl⟩ ?_ ?_
      · rw [show decide ((n ≤ 8 ∨ 10 < n) ∧ l.length ≤ 80) = false from decide_eq_false (fun h => by omega)]; exact ⟨rfl, rfl⟩
      · exact all_nil
  · refine JC_region ?_; refine JL_m ?_; refine JL_leq rfl rfl ?_; rw [decide_eq_false (p := n ≤ 8) (by omega)]; refine JL_m ?_; refine JL_gy ?_; refine JL_m ?_; refine JL_gy ?_; refine JL_gtr rfl rfl ?_; rw [decide_eq_false (p := 10 < n) (by omega)]; refine JL_pick_f rfl rfl ?_; refine JL_m ?_; refine JL_gn ?_; refine JL_gn ?_; refine JL_gn ?_; refine JL_pick_f rfl rfl ?_; refine JL_assign rfl ?_; refine JL_du 16 [] [] ?_; refine JC_ret ?_; refine JE_ret (vs := [_]) [] Tryz.results23 ⟨rfl, rfl⟩ ?_ ?_
    · rw [show decide ((n ≤ 8 ∨ 10 < n) ∧ l.length ≤ 80) = false from decide_eq_false (fun h => by omega)]; exact ⟨rfl, rfl⟩
    · exact all_nil

end Go.Fw.K
