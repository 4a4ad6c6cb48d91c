/- Walks through functions of the given program: each meets its contract. (Printed by a program of this repo.) -/
import Derived.Test.YtjdojhhngganeaaGreatDoorD9
import Derived.Test.YtjdojhhngganeaaGreatDoorDgL
import Derived.Test.YtjdojhhngganeaaGreatDoorProg
namespace Go.Fw.D10
open Go Go.RowKit Go.Proofs Go.Nat9 Go.Fw
attribute [local irreducible] JC JL JE
theorem ca31 : callable Tryz.prog 31 = true := by kernel_rfl
theorem ca40 : callable Tryz.prog 40 = true := by kernel_rfl
theorem ca66 : callable Tryz.prog 66 = true := by kernel_rfl
theorem ca67 : callable Tryz.prog 67 = true := by kernel_rfl
theorem mixed : Tryz.prog.follows .mixedOrders = true := by kernel_rfl
theorem sl57 : slOf Tryz.prog 57 = some (3, 1, 8, [.int .i64 0]) := by kernel_rfl
theorem ty3 : tyOf Tryz.prog 3 = some (false, 1) := by kernel_rfl
end Go.Fw.D10
namespace Go.Fw.K
open Go Go.RowKit Go.Proofs Go.Nat9 Go.Fw Go.Fw.D10
attribute [local irreducible] JC JL JE

theorem idxI_con {ad : Option Addr} {c : Nat} {L : List Int} {f : FuncId} {caps : List Value} {vc : VP} (hcf : callable Tryz.prog f = true) (p : Nat → Bool) (hn : L.length ≤ 9223372036854775807) (hc : ∀ k, k < L.length → ConF Tryz.prog f ([.int .i64 (L.getD k 0)] ++ caps) [vc] (fun v φo => v = .bool (p k) ∧ φo = [])) :
    ConF Tryz.prog 67 [.slice ad L.length c, .func (.func f) #[] caps.toArray] [vCells ad (i64s L), vc]
      (fun v φo => ∃ r, v = .int .i64 r ∧ φo = [] ∧ firstI p L.length r) := by
  refine ConF_of Tryz.func67 rfl 19 _ rfl rfl ?_; intro w0; refine JC_norm ⟨19, [], [_, _, _, _, _, _, _, _, _, _, _, _, _, _, _, _, _, _, _]⟩ [] [_, _] rfl rfl rfl ?_; refine JC_sr ?_; refine JL_assign rfl ?_; refine JL_du 19 [] [_, _] ?_; refine JC_seq ?_; refine JC_sr ?_; refine JL_m ?_; refine JL_len sl57 rfl ?_; refine JL_m ?_; refine JL_du 19 [] [_, _] ?_; refine JC_block ?_; refine JC_loopS ((Nat)) (fun (k : Nat) => k ≤ L.length ∧ ∀ j, j < k → p j = false) (fun (k : Nat) => L.length - k) (fun u (k : Nat) => [none, none, none, none, some (u 4), some (u 5), none, none, some (.int .i64 (k : Nat)), some (u 9), some (u 10), some (u 11), some (u 12), some (u 13), some (u 14), some (u 15), some (u 16), some (u 17), some (u 18)]) (fun (k : Nat) => []) (fun (k : Nat) => []) (0) (by kernel_rfl) ?_ (by kernel_rfl) ?_ ?_
  · exact ⟨Nat.zero_le _, fun j hj => absurd hj (Nat.not_lt_zero j)⟩
  · exact subset_nil
  intro u k hC; obtain ⟨hk, hpf⟩ := hC; refine JC_nm 19 [] [_, _] ?_; refine JC_sr ?_; refine JL_lss rfl rfl ?_; refine JL_split (fun h9 => ?_) (fun h9 => ?_)
  · refine JL_du 19 [] [_, _] ?_; refine JC_seq ?_; refine JC_true rfl ?_; refine JC_skip ?_; refine JE_then ?_; refine JC_seq ?_; refine JC_block ?_; refine JC_sr ?_; refine JL_m ?_; refine JL_assign rfl ?_; refine JL_du 19 [] [_, _] ?_; refine JC_sr ?_; refine JL_m ?_; refine JL_m ?_; refine JL_m ?_; refine JL_idx k sl57 rfl rfl rfl (by omega) (by first | exact Reads.view am) (by first | (rw [u32s_length]; omega) | (rw [i64s_length]; omega)) ?_; refine JL_loadE ty3 rfl (by first | exact Reads.view am) (i64s_get (by omega)) ?_; refine JL_callD (Asks.cons (holds_of_mem am) Asks.nil) (hc k (by omega)) rfl hcf ⟨rfl, rfl⟩ ?_; rintro _ _ ⟨rfl, rfl⟩; refine JL_du 19 [] [_, _] ?_; refine JC_cond rfl (fun hb => ?_) (fun hb => ?_)
    · have h16 := hb
      refine JC_sr ?_; refine JL_m ?_; refine JL_assign rfl ?_; refine JL_du 19 [] [_, _] ?_; refine JC_ret ?_; refine JE_block_ret ?_; refine JE_then_ret ?_; refine JE_nextS_ret ?_; refine JE_block_ret ?_; refine JE_then_ret ?_; refine JE_ret (vs := [_]) [] Tryz.results67 ⟨rfl, rfl⟩ ?_ ?_
      · exact ⟨_, rfl, rfl, .inr ⟨k, by omega, rfl, h16, hpf⟩⟩
      · exact all_nil
    · have h16 := hb
      refine JC_skip ?_; refine JE_block_normal ?_; refine JE_then ?_; refine JC_region ?_; refine JL_add_to rfl rfl (IntWalk.i64_in _ (by omega)) ?_; refine JL_m ?_; refine JL_nu 19 [] [_, _] ?_; refine JE_nextS (k + 1) (by kernel_rfl) ?_ ?_ (by kernel_rfl) ?_
      · exact ⟨by omega, fun j hj => by
        by_cases h : j = k
        · subst h; exact h16
        · exact hpf j (by omega)⟩
      · first | omega | (dsimp only; omega)
      · exact subset_app subset_nil ss0
  · refine JL_du 19 [] [_, _] ?_; refine JC_seq ?_; refine JC_false rfl ?_; refine JC_exit ?_; refine JE_then_exit ?_; refine JE_nextS_exit ?_; refine JE_block_exit ?_; refine JE_then ?_; refine JC_sr ?_; refine JL_assign rfl ?_; refine JL_du 19 [] [_, _] ?_; refine JC_ret ?_; refine JE_ret (vs := [_]) [] Tryz.results67 ⟨rfl, rfl⟩ ?_ ?_
    · exact ⟨_, rfl, rfl, .inl ⟨rfl, fun j hj => hpf j (by omega)⟩⟩
    · exact all_nil

theorem bnd1_con {k : Int} :
    ConF Tryz.prog 68 [.int .i64 k] []
      (fun v φo => v = .bool (decide (0 < k)) ∧ φo = []) := by
  refine ConF_of Tryz.func68 rfl 5 _ rfl rfl ?_; intro w0; refine JC_norm ⟨5, [], [_, _, _, _, _]⟩ [] [] rfl rfl rfl ?_; refine JC_sr ?_; refine JL_assign rfl ?_; refine JL_du 5 [] [] ?_; refine JC_sr ?_; refine JL_m ?_; refine JL_gtr rfl rfl ?_; refine JL_assign rfl ?_; refine JL_du 5 [] [] ?_; refine JC_ret ?_; refine JE_ret (vs := [_]) [] Tryz.results68 ⟨rfl, rfl⟩ ?_ ?_
  · exact ⟨rfl, rfl⟩
  · exact all_nil

set_option maxHeartbeats 2000000 in
theorem bounds_con {ad : Option Addr} {c : Nat} {l : List Pr} {n : Int} (hln : l.length ≤ 1000000) :
    ConF Tryz.prog 31 [.int .i64 n, .slice ad l.length c] [vCells ad (pcells l)]
      (LLE (lowR n l) (higR n l) (seqE n l)) := by
  refine ConF_of Tryz.func31 rfl 63 _ rfl rfl ?_; intro w0; refine JC_norm ⟨63, [], [_, _, _, _, _, _, _, _, _, _, _, _, _, _, _, _, _, _, _, _, _, _, _, _, _, _, _, _, _, _, _, _, _, _, _, _, _, _, _, _, _, _, _, _, _, _, _, _, _, _, _, _, _, _, _, _, _, _, _, _, _, _, _]⟩ [] [_] rfl rfl rfl ?_; refine JC_sr ?_; refine JL_assign rfl ?_; refine JL_assign rfl ?_; refine JL_assign rfl ?_; refine JL_du 63 [] [_] ?_; refine JC_seq ?_; refine JC_sr ?_; refine JL_m ?_; refine JL_m ?_; refine JL_callF' (Asks.cons (holds_of_mem am) Asks.nil) (cntd_con hln) rfl ca40 ⟨rfl, rfl, rfl⟩ ?_; rintro _ _ ⟨rfl, rfl⟩; refine JL_m ?_; refine JL_extract rfl rfl ?_; refine JL_extract rfl rfl ?_; refine JL_assign rfl ?_; refine JL_assign rfl ?_; refine JL_du 63 [] [_] ?_; refine JC_sr ?_; refine JL_m ?_; refine JL_neq rfl rfl ?_; refine JL_split (fun h25 => ?_) (fun h25 => ?_)
  · refine JL_du 63 [] [_] ?_; refine JC_true rfl ?_; refine JC_sr ?_; refine JL_m ?_; refine JL_assign rfl ?_; refine JL_assign rfl ?_; refine JL_assign rfl ?_; refine JL_du 63 [] [_] ?_; refine JC_ret ?_; refine JE_then_ret ?_; refine JE_addView (f := true) (p := vCells none (i64s [])) (fun _ _ => nilI) ?_; refine JE_ret (vs := [_, _, _]) [vCells none (i64s []), vCells none (i64s [])] Tryz.results31 ⟨rfl, rfl, rfl, rfl⟩ ?_ ?_
    · rw [(low_no h25).1, (low_no h25).2]; exact ⟨none, 0, none, 0, rfl, rfl⟩
    · exact (all_cons am (all_cons am all_nil))
  · refine JL_du 63 [] [_] ?_; refine JC_false rfl ?_; refine JC_skip ?_; refine JE_then ?_; refine JC_seq ?_; obtain ⟨m, rfl, hC⟩ := cert_of (Classical.byContradiction h25)
    have hten := hC.ten
    refine JC_region ?_; refine JL_assign rfl ?_; refine JL_assign rfl ?_; refine JL_du 63 [] [_] ?_; refine JC_seq ?_; refine JC_sr ?_; refine JL_m ?_; refine JL_m ?_; refine JL_du 63 [] [_] ?_; refine JC_block ?_; refine JC_addNil 3 1 ?_; refine JC_norm ⟨63, [], [_, _, _, _, _, _, _, _, _, _, _, _, _, _, _, _, _, _, _, _, _, _, _, _, _, _, _, _, _, _, _, _, _, _, _, _, _, _, _, _, _, _, _, _, _, _, _, _, _, _, _, _, _, _, _, _, _, _, _, _, _, _, _]⟩ [osl _ _ _ _ _ _] [_] rfl rfl rfl ?_; refine JC_addNil 3 1 ?_; refine JC_norm ⟨63, [], [_, _, _, _, _, _, _, _, _, _, _, _, _, _, _, _, _, _, _, _, _, _, _, _, _, _, _, _, _, _, _, _, _, _, _, _, _, _, _, _, _, _, _, _, _, _, _, _, _, _, _, _, _, _, _, _, _, _, _, _, _, _, _]⟩ [osl _ _ _ _ _ _, osl _ _ _ _ _ _] [_] rfl rfl rfl ?_
    refine JC_loopS ((Nat) × (List Int) × (List Int) × (Option Addr) × (Nat) × (Nat) × (Option Addr) × (Nat) × (Nat)) (fun (i, A, B, ad1, c1, n1, ad2, c2, n2) => i ≤ m ∧ (lowP m l i = A ∧ higP m l i = B) ∧ n1 = A.length ∧ n2 = B.length) (fun (i, A, B, ad1, c1, n1, ad2, c2, n2) => m - i) (fun u (i, A, B, ad1, c1, n1, ad2, c2, n2) => [none, none, none, none, none, none, none, none, none, some (.slice ad1 n1 c1), some (.slice ad2 n2 c2), some (u 11), some (u 12), some (u 13), some (u 14), some (u 15), some (u 16), some (u 17), none, none, none, none, none, none, none, none, none, none, some (.int .i64 (i : Nat)), some (u 29), some (u 30), some (u 31), some (u 32), some (u 33), some (u 34), some (u 35), some (u 36), some (u 37), some (u 38), some (u 39), some (u 40), some (u 41), some (u 42), some (u 43), some (u 44), some (u 45), some (u 46), some (u 47), some (u 48), some (u 49), some (u 50), some (u 51), some (u 52), some (u 53), some (u 54), some (u 55), some (u 56), some (u 57), some (u 58), some (u 59), some (u 60), none, none]) (fun (i, A, B, ad1, c1, n1, ad2, c2, n2) => [some (osl ad1 n1 c1 3 1 (i64s A)), some (osl ad2 n2 c2 3 1 (i64s B))]) (fun (i, A, B, ad1, c1, n1, ad2, c2, n2) => []) (0, [], [], none, 0, 0, none, 0, 0) (by kernel_rfl) ?_ (by kernel_rfl) ?_ ?_
    · exact ⟨Nat.zero_le _, ⟨rfl, rfl⟩, rfl, rfl⟩
    · exact subset_nil
    intro u i hC; obtain ⟨i, A, B, ad1, c1, n1, ad2, c2, n2⟩ := i; obtain ⟨hi, ⟨hA, hB⟩, hn1, hn2⟩ := hC; refine JC_nm 63 [osl _ _ _ _ _ _, osl _ _ _ _ _ _] [_] ?_
    have hA1 := lowP_len m l i
    have hB1 := higP_len m l i
    rw [hA] at hA1; rw [hB] at hB1; refine JC_sr ?_; refine JL_lss rfl rfl ?_; refine JL_split (fun h29 => ?_) (fun h29 => ?_)
    · refine JL_du 63 [osl _ _ _ _ _ _, osl _ _ _ _ _ _] [_] ?_; refine JC_seq ?_; refine JC_true rfl ?_; refine JC_skip ?_; refine JE_then ?_; refine JC_seq ?_; refine JC_block ?_; refine JC_seq ?_
      have him : i < m := by omega
      have hpl := placeL_len m l i
      refine JC_region ?_; refine JL_m ?_; refine JL_assign rfl ?_; refine JL_du 63 [osl _ _ _ _ _ _, osl _ _ _ _ _ _] [_] ?_; refine JC_sr ?_; refine JL_m ?_; refine JL_m ?_; refine JL_m ?_; refine JL_callF' (Asks.cons (by first | exact holds_of_mem am | (exact holds_of_own 0 rfl) | (exact holds_of_own 1 rfl)) Asks.nil) (place_con (i0 := (i : Int)) hln) rfl ca66 ⟨rfl, rfl, rfl, rfl⟩ ?_; rintro _ _ ⟨ad35, c35, rfl, hc35, rfl⟩; rw [(plc_ok hC him).1, (plc_ok hC him).2]; refine JL_m ?_; refine JL_extract rfl rfl ?_; refine JL_extract rfl rfl ?_; refine JL_assign rfl ?_; refine JL_assign rfl ?_; refine JL_du 63 [osl _ _ _ _ _ _, osl _ _ _ _ _ _] [_, _] ?_; refine JC_sr ?_; refine JL_m ?_; refine JL_callF' (Asks.cons (holds_of_mem (by repeat (first | with_reducible exact mm0 | refine mmS ?_))) (Asks.cons (Asks.list (l := []) Asks.nil) Asks.nil)) (idxI_con (f := 68) (caps := []) (vc := vList []) (by kernel_rfl) (fun k => decide (0 < (placeL m l i).getD k 0)) (by omega) (fun k _ => (bnd1_con (k := (placeL m l i).getD k 0)).more)) rfl ca67 ⟨rfl, rfl, rfl⟩ ?_; rintro _ _ ⟨r39, rfl, rfl, hr39⟩
      obtain rfl := first_anc hC him hr39; refine JL_assign rfl ?_; refine JL_du 63 [osl _ _ _ _ _ _, osl _ _ _ _ _ _] [_, _] ?_; refine JC_sr ?_; refine JL_m ?_; refine JL_assign rfl ?_; refine JL_du 63 [osl _ _ _ _ _ _, osl _ _ _ _ _ _] [_, _] ?_; refine JC_seq ?_; refine JC_sr ?_; refine JL_m ?_; refine JL_len sl57 rfl ?_; refine JL_m ?_; refine JL_du 63 [osl _ _ _ _ _ _, osl _ _ _ _ _ _] [_, _] ?_; refine JC_block ?_
      refine JC_loopS ((Nat) × (Int)) (fun (k, z) => k ≤ m ∧ lastI (fun k => decide (0 < (placeL m l i).getD k 0)) ((ancN m l i : Nat) : Int) k = z) (fun (k, z) => m - k) (fun u (k, z) => [none, none, none, none, none, none, none, none, none, none, none, none, none, none, none, some (.int .i64 z), some (u 16), some (u 17), none, none, none, none, none, none, none, none, none, none, none, none, none, none, none, none, none, none, none, none, none, none, none, none, none, some (.int .i64 (k : Nat)), some (u 44), some (u 45), some (u 46), some (u 47), some (u 48), some (u 49), some (u 50), some (u 51), none, none, none, none, none, none, none, none, none, none, none]) (fun (k, z) => [none, none]) (fun (k, z) => []) (0, ((ancN m l i : Nat) : Int)) (by kernel_rfl) ?_ (by kernel_rfl) ?_ ?_
      · exact ⟨Nat.zero_le _, rfl⟩
      · exact subset_nil
      intro u i hC; obtain ⟨k, z⟩ := i; obtain ⟨hk, hz⟩ := hC; refine JC_nm 63 [osl _ _ _ _ _ _, osl _ _ _ _ _ _] [_, _] ?_; refine JC_sr ?_; refine JL_lss rfl rfl ?_; refine JL_split (fun h44 => ?_) (fun h44 => ?_)
      · refine JL_du 63 [osl _ _ _ _ _ _, osl _ _ _ _ _ _] [_, _] ?_; refine JC_seq ?_; refine JC_true rfl ?_; refine JC_skip ?_; refine JE_then ?_; refine JC_seq ?_; refine JC_block ?_; refine JC_sr ?_; refine JL_m ?_; refine JL_idx k sl57 rfl rfl rfl (by omega) (by first | exact Reads.view am | (exact Reads.own 0 rfl) | (exact Reads.own 1 rfl)) (by first | (rw [u32s_length]; omega) | (rw [i64s_length]; omega)) ?_; refine JL_loadE ty3 rfl (by first | exact Reads.view am | (exact Reads.own 0 rfl) | (exact Reads.own 1 rfl)) (i64s_get (by omega)) ?_; refine JL_assign rfl ?_; refine JL_assign rfl ?_; refine JL_du 63 [osl _ _ _ _ _ _, osl _ _ _ _ _ _] [_, _] ?_; refine JC_sr ?_; refine JL_m ?_; refine JL_gtr rfl rfl ?_; refine JL_split (fun h49 => ?_) (fun h49 => ?_)
        · refine JL_du 63 [osl _ _ _ _ _ _, osl _ _ _ _ _ _] [_, _] ?_; refine JC_true rfl ?_; refine JC_region ?_; refine JL_m ?_; refine JL_assign rfl ?_; refine JL_nu 63 [osl _ _ _ _ _ _, osl _ _ _ _ _ _] [_, _] ?_; refine JE_block_normal ?_; refine JE_then ?_; refine JC_region ?_; refine JL_add_to rfl rfl (IntWalk.i64_in _ (by omega)) ?_; refine JL_m ?_; refine JL_nu 63 [osl _ _ _ _ _ _, osl _ _ _ _ _ _] [_, _] ?_; refine JE_nextS (k + 1, ((k : Nat) : Int)) (by kernel_rfl) ?_ ?_ (by kernel_rfl) ?_
          · exact ⟨by omega, by rw [lastI, if_pos (decide_eq_true h49)]⟩
          · first | omega | (dsimp only; omega)
          · exact subset_app subset_nil ss0
        · refine JL_du 63 [osl _ _ _ _ _ _, osl _ _ _ _ _ _] [_, _] ?_; refine JC_false rfl ?_; refine JC_skip ?_; refine JE_block_normal ?_; refine JE_then ?_; refine JC_region ?_; refine JL_add_to rfl rfl (IntWalk.i64_in _ (by omega)) ?_; refine JL_m ?_; refine JL_nu 63 [osl _ _ _ _ _ _, osl _ _ _ _ _ _] [_, _] ?_; refine JE_nextS (k + 1, z) (by kernel_rfl) ?_ ?_ (by kernel_rfl) ?_
          · exact ⟨by omega, by rw [lastI, if_neg (fun e => h49 (of_decide_eq_true e)), hz]⟩
          · first | omega | (dsimp only; omega)
          · exact subset_app subset_nil ss0
      · refine JL_du 63 [osl _ _ _ _ _ _, osl _ _ _ _ _ _] [_, _] ?_; refine JC_seq ?_; refine JC_false rfl ?_; refine JC_exit ?_; refine JE_then_exit ?_; refine JE_nextS_exit ?_; refine JE_block_exit ?_; refine JE_then ?_
        have hkE : k = m := by omega
        have hzE : z = (m : Int) - 1 - ((dscN m l i : Nat) : Int) := by rw [← hz, hkE]; exact last_dsc hC him _
        subst hzE; refine JC_region ?_; refine JL_m ?_; refine JL_m ?_; refine JL_build1 sl57 rfl rfl (fun g54 => ?_); refine JL_appendI (L := A) 0 2 sl57 rfl rfl rfl rfl (by omega) (by omega) (fun ad55 cap55 hc55 => ?_); refine JL_dropAt 2 ?_; refine JL_norm _ [osl _ _ _ _ _ _, osl _ _ _ _ _ _] [_, _] rfl rfl rfl ?_; refine JL_m ?_; refine JL_m ?_; refine JL_build1 sl57 rfl rfl (fun g58 => ?_); refine JL_appendI (L := B) 1 2 sl57 rfl rfl rfl rfl (by omega) (by omega) (fun ad59 cap59 hc59 => ?_); refine JL_dropAt 2 ?_; refine JL_norm _ [osl _ _ _ _ _ _, osl _ _ _ _ _ _] [_, _] rfl rfl rfl ?_; refine JL_assign rfl ?_; refine JL_assign rfl ?_; refine JL_nu 63 [osl _ _ _ _ _ _, osl _ _ _ _ _ _] [_, _] ?_; refine JE_block_normal ?_; refine JE_then ?_; refine JC_region ?_; refine JL_add_to rfl rfl (IntWalk.i64_in _ (by omega)) ?_; refine JL_m ?_; refine JL_nu 63 [osl _ _ _ _ _ _, osl _ _ _ _ _ _] [_, _] ?_; refine JE_nextS (i + 1, A ++ [((ancN m l i : Nat) : Int)], B ++ [(m : Int) - 1 - ((dscN m l i : Nat) : Int)], ad55, cap55, n1 + 1, ad59, cap59, n2 + 1) (by kernel_rfl) ?_ ?_ (by kernel_rfl) ?_
        · exact ⟨by omega, ⟨by rw [lowP, hA], by rw [higP, hB]⟩, by rw [List.length_append, hn1]; rfl, by rw [List.length_append, hn2]; rfl⟩
        · first | omega | (dsimp only; omega)
        · exact subset_app subset_nil (ssS ss0)
    · refine JL_du 63 [osl _ _ _ _ _ _, osl _ _ _ _ _ _] [_] ?_; refine JC_seq ?_; refine JC_false rfl ?_; refine JC_exit ?_; refine JE_then_exit ?_; refine JE_nextS_exit ?_; refine JE_block_exit ?_; refine JE_then ?_; refine JC_seq ?_
      have hie : i = m := by omega
      rw [hie] at hA hB; subst hn1; subst hn2; refine JC_region ?_; refine JL_m ?_; refine JL_m ?_; refine JL_assign rfl ?_; refine JL_assign rfl ?_; refine JL_assign rfl ?_; refine JL_du 63 [osl _ _ _ _ _ _, osl _ _ _ _ _ _] [_] ?_; refine JC_ret ?_; refine JE_give 0 rfl ?_; refine JE_norm _ [osl _ _ _ _ _ _] [_, _] rfl rfl rfl ?_; refine JE_give 0 rfl ?_; refine JE_norm _ [] [_, _, _] rfl rfl rfl ?_; refine JE_ret (vs := [_, _, _]) [vCells ad1 (i64s A), vCells ad2 (i64s B)] Tryz.results31 ⟨rfl, rfl, rfl, rfl⟩ ?_ ?_
      · rw [(low_ok hC).1, (low_ok hC).2, hA, hB, hC.ok]; exact ⟨ad1, c1, ad2, c2, rfl, rfl⟩
      · exact (all_cons am (all_cons am all_nil))

set_option maxHeartbeats 2000000 in
theorem fixed_con {ad : Option Addr} {c : Nat} {l : List Pr} {n : Int} (hln : l.length ≤ 1000000) :
    ConF Tryz.prog 32 [.int .i64 n, .slice ad l.length c] [vCells ad (pcells l)]
      (SPI (fixR n l) (seqE n l)) := by
  refine ConF_of Tryz.func32 rfl 41 _ rfl rfl ?_; intro w0; refine JC_norm ⟨41, [], [_, _, _, _, _, _, _, _, _, _, _, _, _, _, _, _, _, _, _, _, _, _, _, _, _, _, _, _, _, _, _, _, _, _, _, _, _, _, _, _, _]⟩ [] [_] rfl rfl rfl ?_; refine JC_sr ?_; refine JL_assign rfl ?_; refine JL_assign rfl ?_; refine JL_du 41 [] [_] ?_; refine JC_sr ?_; refine JL_m ?_; refine JL_m ?_; refine JL_callF' (Asks.cons (holds_of_mem am) Asks.nil) (bounds_con hln) rfl ca31 ⟨rfl, rfl, rfl⟩ ?_; rintro _ _ ⟨ad14, c14, be14, e14, rfl, rfl⟩; refine JL_m ?_; refine JL_extract rfl rfl ?_; refine JL_extract rfl rfl ?_; refine JL_extract rfl rfl ?_; refine JL_assign rfl ?_; refine JL_assign rfl ?_; refine JL_assign rfl ?_; refine JL_du 41 [] [_, _, _] ?_; refine JC_seq ?_; refine JC_sr ?_; refine JL_m ?_; refine JL_neq rfl rfl ?_; refine JL_split (fun h19 => ?_) (fun h19 => ?_)
  · refine JL_du 41 [] [_, _, _] ?_; refine JC_true rfl ?_; refine JC_sr ?_; refine JL_m ?_; refine JL_assign rfl ?_; refine JL_assign rfl ?_; refine JL_du 41 [] [_, _, _] ?_; refine JC_ret ?_; refine JE_then_ret ?_; refine JE_addView (f := true) (p := vCells none (i64s [])) (fun _ _ => nilI) ?_; refine JE_ret (vs := [_, _]) [vCells none (i64s [])] Tryz.results32 ⟨rfl, rfl, rfl⟩ ?_ ?_
    · rw [fix_no h19]; exact ⟨none, 0, rfl, caps0, rfl⟩
    · exact (all_cons am all_nil)
  · refine JL_du 41 [] [_, _, _] ?_; refine JC_false rfl ?_; refine JC_skip ?_; refine JE_then ?_; refine JC_seq ?_; obtain ⟨m, rfl, hC⟩ := cert_of (Classical.byContradiction h19)
    have hten := hC.ten
    rw [(low_ok hC).1, (low_ok hC).2]
    have hll := lowP_len m l m
    have hhl := higP_len m l m
    refine JC_region ?_; refine JL_assign rfl ?_; refine JL_du 41 [] [_, _, _] ?_; refine JC_seq ?_; refine JC_sr ?_; refine JL_m ?_; refine JL_len sl57 rfl ?_; refine JL_m ?_; refine JL_du 41 [] [_, _, _] ?_; refine JC_block ?_; refine JC_addNil 3 1 ?_; refine JC_norm ⟨41, [], [_, _, _, _, _, _, _, _, _, _, _, _, _, _, _, _, _, _, _, _, _, _, _, _, _, _, _, _, _, _, _, _, _, _, _, _, _, _, _, _, _]⟩ [osl _ _ _ _ _ _] [_, _, _] rfl rfl rfl ?_
    refine JC_loopS ((Nat) × (List Int) × (Option Addr) × (Nat) × (Nat)) (fun (i, A, ad1, c1, n1) => i ≤ m ∧ fixP m l i = A ∧ n1 = A.length) (fun (i, A, ad1, c1, n1) => m - i) (fun u (i, A, ad1, c1, n1) => [none, none, none, none, none, none, none, none, none, some (.slice ad1 n1 c1), some (u 10), none, none, none, none, none, none, none, none, none, none, none, none, some (.int .i64 (i : Nat)), some (u 24), some (u 25), some (u 26), some (u 27), some (u 28), some (u 29), some (u 30), some (u 31), some (u 32), some (u 33), some (u 34), some (u 35), some (u 36), some (u 37), some (u 38), some (u 39), none]) (fun (i, A, ad1, c1, n1) => [some (osl ad1 n1 c1 3 1 (i64s A))]) (fun (i, A, ad1, c1, n1) => []) (0, [], none, 0, 0) (by kernel_rfl) ?_ (by kernel_rfl) ?_ ?_
    · exact ⟨Nat.zero_le _, rfl, rfl⟩
    · exact subset_nil
    intro u i hC; obtain ⟨i, A, ad1, c1, n1⟩ := i; obtain ⟨hi, hA, hn1⟩ := hC; refine JC_nm 41 [osl _ _ _ _ _ _] [_, _, _] ?_
    have hA1 := fixP_len m l i
    rw [hA] at hA1; refine JC_sr ?_; refine JL_lss rfl rfl ?_; refine JL_split (fun h24 => ?_) (fun h24 => ?_)
    · refine JL_du 41 [osl _ _ _ _ _ _] [_, _, _] ?_; refine JC_seq ?_; refine JC_true rfl ?_; refine JC_skip ?_; refine JE_then ?_; refine JC_seq ?_; refine JC_block ?_; refine JC_sr ?_; refine JL_m ?_; refine JL_assign rfl ?_; refine JL_du 41 [osl _ _ _ _ _ _] [_, _, _] ?_; refine JC_seq ?_; refine JC_drawT mixed 8 [spV 26 [] _, spV 27 [] _, spV 28 [0, 1] _, spV 29 [2] _, spV 30 [] _, spV 31 [] _, spV 32 [4, 5] _, spV 33 [6] _] ⟨oM, oM, OblS_V (fun vals ex ψ => (by refine JL_normQ _ (_ :: _ :: _ :: ψ) rfl rfl ?_; refine JL_idx i sl57 rfl rfl rfl (by omega) (by first | exact Reads.view am | (exact Reads.own 0 rfl)) (by first | (rw [u32s_length]; omega) | (rw [i64s_length]; omega)) ?_; exact vz rfl)), OblS_V (fun vals ex ψ => (by refine JL_normQ _ (_ :: _ :: _ :: ψ) rfl rfl ?_; refine JL_loadE ty3 rfl (by first | exact Reads.view am | (exact Reads.own 0 rfl)) (i64s_get (by omega)) ?_; rw [lowP_at m l (show i < m by omega)]; exact vz rfl)), oM, oM, OblS_V (fun vals ex ψ => (by refine JL_normQ _ (_ :: _ :: _ :: ψ) rfl rfl ?_; refine JL_idx i sl57 rfl rfl rfl (by omega) (by first | exact Reads.view am | (exact Reads.own 0 rfl)) (by first | (rw [u32s_length]; omega) | (rw [i64s_length]; omega)) ?_; exact vz rfl)), OblS_V (fun vals ex ψ => (by refine JL_normQ _ (_ :: _ :: _ :: ψ) rfl rfl ?_; refine JL_loadE ty3 rfl (by first | exact Reads.view am | (exact Reads.own 0 rfl)) (i64s_get (by omega)) ?_; rw [higP_at m l (show i < m by omega)]; exact vz rfl)), trivial⟩ (by kernel_rfl) (fun vals bs => ?_)
      refine JL_normL [_] ⟨41, [(26, _), (27, _), (28, _), (29, _), (30, _), (31, _), (32, _), (33, _)], _⟩ [osl _ _ _ _ _ _] [_, _, _] rfl rfl rfl rfl ?_; refine JL_eql rfl rfl ?_; refine JL_split (fun h34 => ?_) (fun h34 => ?_)
      · refine JL_du 41 [osl _ _ _ _ _ _] [_, _, _] ?_; refine JC_true rfl ?_; refine JC_region ?_; refine JL_m ?_; refine JL_m ?_; refine JL_build1 sl57 rfl rfl (fun g37 => ?_); refine JL_appendI (L := A) 0 1 sl57 rfl rfl rfl rfl (by omega) (by omega) (fun ad38 cap38 hc38 => ?_); refine JL_dropAt 1 ?_; refine JL_norm _ [osl _ _ _ _ _ _] [_, _, _] rfl rfl rfl ?_; refine JL_assign rfl ?_; refine JL_nu 41 [osl _ _ _ _ _ _] [_, _, _] ?_; refine JE_block_normal ?_; refine JE_then ?_; refine JC_region ?_; refine JL_add_to rfl rfl (IntWalk.i64_in _ (by omega)) ?_; refine JL_m ?_; refine JL_nu 41 [osl _ _ _ _ _ _] [_, _, _] ?_; refine JE_nextS (i + 1, A ++ [(i : Int)], ad38, cap38, n1 + 1) (by kernel_rfl) ?_ ?_ (by kernel_rfl) ?_
        · exact ⟨by omega, by rw [fixP, if_pos h34, hA], by rw [List.length_append, hn1]; rfl⟩
        · first | omega | (dsimp only; omega)
        · exact subset_app subset_nil ss0
      · refine JL_du 41 [osl _ _ _ _ _ _] [_, _, _] ?_; refine JC_false rfl ?_; refine JC_skip ?_; refine JE_block_normal ?_; refine JE_then ?_; refine JC_region ?_; refine JL_add_to rfl rfl (IntWalk.i64_in _ (by omega)) ?_; refine JL_m ?_; refine JL_nu 41 [osl _ _ _ _ _ _] [_, _, _] ?_; refine JE_nextS (i + 1, A, ad1, c1, n1) (by kernel_rfl) ?_ ?_ (by kernel_rfl) ?_
        · exact ⟨by omega, by rw [fixP, if_neg h34, hA], hn1⟩
        · first | omega | (dsimp only; omega)
        · exact subset_app subset_nil ss0
    · refine JL_du 41 [osl _ _ _ _ _ _] [_, _, _] ?_; refine JC_seq ?_; refine JC_false rfl ?_; refine JC_exit ?_; refine JE_then_exit ?_; refine JE_nextS_exit ?_; refine JE_block_exit ?_; refine JE_then ?_; refine JC_seq ?_
      have hie : i = m := by omega
      rw [hie] at hA; subst hn1; refine JC_ownCap 0 rfl (fun hcap => ?_); refine JC_region ?_; refine JL_m ?_; refine JL_assign rfl ?_; refine JL_assign rfl ?_; refine JL_du 41 [osl _ _ _ _ _ _] [_, _, _] ?_; refine JC_ret ?_; refine JE_give 0 rfl ?_; refine JE_norm _ [] [_, _, _, _] rfl rfl rfl ?_; refine JE_ret (vs := [_, _]) [vCells ad1 (i64s A)] Tryz.results32 ⟨rfl, rfl, rfl⟩ ?_ ?_
      · rw [fix_ok hC, hA, hC.ok]; exact ⟨ad1, c1, rfl, hcap, rfl⟩
      · exact (all_cons am all_nil)

theorem bhas_con {ad : Option Addr} {c : Nat} {L : List Int} {x : Int} (hln : L.length ≤ 1000000) :
    ConF Tryz.prog 34 [.slice ad L.length c, .int .i64 x] [vCells ad (i64s L)]
      (fun v φo => v = .bool (decide (x ∈ L)) ∧ φo = []) := by
  refine ConF_of Tryz.func34 rfl 18 _ rfl rfl ?_; intro w0; refine JC_norm ⟨18, [], [_, _, _, _, _, _, _, _, _, _, _, _, _, _, _, _, _, _]⟩ [] [_] rfl rfl rfl ?_; refine JC_sr ?_; refine JL_assign rfl ?_; refine JL_du 18 [] [_] ?_; refine JC_seq ?_; refine JC_sr ?_; refine JL_assign rfl ?_; refine JL_du 18 [] [_] ?_; refine JC_block ?_; refine JC_loopS ((Nat)) (fun (k : Nat) => k ≤ L.length ∧ ∀ j, j < k → L.getD j 0 ≠ x) (fun (k : Nat) => L.length - k) (fun u (k : Nat) => [none, none, none, none, some (u 4), some (.int .i64 (k : Nat)), some (u 6), some (u 7), some (u 8), some (u 9), some (u 10), some (u 11), some (u 12), some (u 13), some (u 14), some (u 15), some (u 16), some (u 17)]) (fun (k : Nat) => []) (fun (k : Nat) => []) (0) (by kernel_rfl) ?_ (by kernel_rfl) ?_ ?_
  · exact ⟨Nat.zero_le _, fun j hj => absurd hj (Nat.not_lt_zero j)⟩
  · exact subset_nil
  intro u k hC; obtain ⟨hk, hj⟩ := hC; refine JC_nm 18 [] [_] ?_; refine JC_seq ?_; refine JC_sr ?_; refine JL_m ?_; refine JL_m ?_; refine JL_len sl57 rfl ?_; refine JL_lss rfl rfl ?_; refine JL_split (fun h9 => ?_) (fun h9 => ?_)
  · refine JL_du 18 [] [_] ?_; refine JC_true rfl ?_; refine JC_skip ?_; refine JE_then ?_; refine JC_seq ?_; refine JC_block ?_; refine JC_sr ?_; refine JL_m ?_; refine JL_m ?_; refine JL_idx k sl57 rfl rfl rfl (by omega) (by first | exact Reads.view am) (by first | (rw [u32s_length]; omega) | (rw [i64s_length]; omega)) ?_; refine JL_loadE ty3 rfl (by first | exact Reads.view am) (i64s_get (by omega)) ?_; refine JL_m ?_; refine JL_eql rfl rfl ?_; refine JL_split (fun h17 => ?_) (fun h17 => ?_)
    · refine JL_du 18 [] [_] ?_; refine JC_true rfl ?_; refine JC_sr ?_; refine JL_assign rfl ?_; refine JL_du 18 [] [_] ?_; refine JC_ret ?_; refine JE_block_ret ?_; refine JE_then_ret ?_; refine JE_nextS_ret ?_; refine JE_block_ret ?_; refine JE_then_ret ?_; refine JE_ret (vs := [_]) [] Tryz.results34 ⟨rfl, rfl⟩ ?_ ?_
      · rw [decide_eq_true (p := x ∈ L) (h17 ▸ getI_mem (by omega))]; exact ⟨rfl, rfl⟩
      · exact all_nil
    · refine JL_du 18 [] [_] ?_; refine JC_false rfl ?_; refine JC_skip ?_; refine JE_block_normal ?_; refine JE_then ?_; refine JC_region ?_; refine JL_m ?_; refine JL_add_to rfl rfl (IntWalk.i64_in _ (by omega)) ?_; refine JL_assign rfl ?_; refine JL_nu 18 [] [_] ?_; refine JE_nextS (k + 1) (by kernel_rfl) ?_ ?_ (by kernel_rfl) ?_
      · exact ⟨by omega, fun j hj2 => by
        by_cases h : j = k
        · subst h; exact h17
        · exact hj j (by omega)⟩
      · first | omega | (dsimp only; omega)
      · exact subset_app subset_nil ss0
  · refine JL_du 18 [] [_] ?_; refine JC_false rfl ?_; refine JC_exit ?_; refine JE_then_exit ?_; refine JE_nextS_exit ?_; refine JE_block_exit ?_; refine JE_then ?_; refine JC_sr ?_; refine JL_assign rfl ?_; refine JL_du 18 [] [_] ?_; refine JC_ret ?_; refine JE_ret (vs := [_]) [] Tryz.results34 ⟨rfl, rfl⟩ ?_ ?_
    · rw [decide_eq_false (p := x ∈ L) (no_memI (fun j h => hj j (by omega)))]; exact ⟨rfl, rfl⟩
    · exact all_nil

end Go.Fw.K
