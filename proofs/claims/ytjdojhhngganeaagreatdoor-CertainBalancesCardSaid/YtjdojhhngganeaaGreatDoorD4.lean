/- Walks through functions of the given program: each meets its contract. (Printed by a program of this repo.) -/
import Derived.Test.YtjdojhhngganeaaGreatDoorD3
import Derived.Test.YtjdojhhngganeaaGreatDoorFwR
import Derived.Test.YtjdojhhngganeaaGreatDoorProg
namespace Go.Fw.D4
open Go Go.RowKit Go.Proofs Go.Nat9 Go.Fw
attribute [local irreducible] JC JL JE
theorem ca25 : callable Tryz.prog 25 = true := by kernel_rfl
theorem ca40 : callable Tryz.prog 40 = true := by kernel_rfl
theorem ca73 : callable Tryz.prog 73 = true := by kernel_rfl
theorem ca92 : callable Tryz.prog 92 = true := by kernel_rfl
theorem ca93 : callable Tryz.prog 93 = true := by kernel_rfl
theorem ca94 : callable Tryz.prog 94 = true := by kernel_rfl
theorem fo114_1 : fOf Tryz.prog 114 1 = some 1 := by kernel_rfl
theorem fo114_2 : fOf Tryz.prog 114 2 = some 2 := by kernel_rfl
theorem fo53_0 : fOf Tryz.prog 53 0 = some 0 := by kernel_rfl
theorem fo53_1 : fOf Tryz.prog 53 1 = some 1 := by kernel_rfl
theorem fv114_2 : fvOf Tryz.prog 114 2 = some 2 := by kernel_rfl
theorem mixed : Tryz.prog.follows .mixedOrders = true := by kernel_rfl
theorem sl22 : slOf Tryz.prog 22 = some (53, 2, 16, [.int .i64 0, .int .i64 0]) := by kernel_rfl
theorem sl57 : slOf Tryz.prog 57 = some (3, 1, 8, [.int .i64 0]) := by kernel_rfl
theorem st114 : stOf Tryz.prog 114 = some ([(0, 1), (1, 1), (2, 1)], [.int .i64 0, .slice none 0 0, .slice none 0 0]) := by kernel_rfl
theorem ty114 : tyOf Tryz.prog 114 = some (true, 3) := by kernel_rfl
theorem ty3 : tyOf Tryz.prog 3 = some (false, 1) := by kernel_rfl
theorem ty53 : tyOf Tryz.prog 53 = some (true, 2) := by kernel_rfl
theorem ty57 : tyOf Tryz.prog 57 = some (false, 1) := by kernel_rfl
theorem z114 : zeroOf Tryz.prog 114 = some [.int .i64 0, .slice none 0 0, .slice none 0 0] := by kernel_rfl
theorem z53 : zeroOf Tryz.prog 53 = some [.int .i64 0, .int .i64 0] := by kernel_rfl
end Go.Fw.D4
namespace Go.Fw.K
open Go Go.RowKit Go.Proofs Go.Nat9 Go.Fw Go.Fw.D4
attribute [local irreducible] JC JL JE

set_option maxHeartbeats 4000000 in
theorem sof_con {ad : Option Addr} {c : Nat} {l : List Pr} {n N : Nat} (h : dgC n l) (hln : l.length ≤ 1000000) (hn : n ≤ 10) (hN : 2 ^ n = N) :
    ConF Tryz.prog 93 [.int .i64 (n : Nat), .slice ad l.length c] [vCells ad (pcells l)]
      (TBL n (needL n l) (waysL n l)) := by
  obtain ⟨hN1, hN2⟩ := pow10 hn hN; refine ConF_of Tryz.func93 rfl 74 _ rfl rfl ?_; intro w0; refine JC_norm ⟨74, [], [_, _, _, _, _, _, _, _, _, _, _, _, _, _, _, _, _, _, _, _, _, _, _, _, _, _, _, _, _, _, _, _, _, _, _, _, _, _, _, _, _, _, _, _, _, _, _, _, _, _, _, _, _, _, _, _, _, _, _, _, _, _, _, _, _, _, _, _, _, _, _, _, _, _]⟩ [] [_] rfl rfl rfl ?_; refine JC_sr ?_; refine JL_alloc z114 (fun b4 => ?_); refine JL_du 74 [box _ _ [_, _, _]] [_] ?_; refine JC_seq ?_; refine JC_drawR mixed 8 [srV 11 [] _, srV 12 [] _, srN 13 [1] (ownI 3 n (List.replicate n 0)), srV 14 [] _, srV 15 [3] _, srN 16 [4] (ownI 3 N (List.replicate N 0)), srD 17 [0, 2, 5] (fun l v φo => v = .agg #[.int .i64 (n : Nat), gl l 1, gl l 2] ∧ φo = []), srA 5 114 [.int .i64 0, .slice none 0 0, .slice none 0 0]] ⟨OblR_V (fun vals rs ex ψ => (by intro _; refine JL_normQ ⟨74, [(11, _), (12, _), (13, _), (14, _), (15, _), (16, _), (17, _), (5, _)], _⟩ (_ :: ψ) rfl rfl ?_; refine JL_m ?_; exact JL_nil (JE_stepV rfl ss0))), OblR_V (fun vals rs ex ψ => (by intro _; refine JL_normQ ⟨74, [(11, _), (12, _), (13, _), (14, _), (15, _), (16, _), (17, _), (5, _)], _⟩ (_ :: ψ) rfl rfl ?_; refine JL_m ?_; exact JL_nil (JE_stepV rfl ss0))), OblR_N (fun vals rs ex ψ => (by intro _; refine JL_normG ⟨74, [(11, _), (12, _), (13, _), (14, _), (15, _), (16, _), (17, _), (5, _)], _⟩ (_ :: ψ) rfl rfl ?_; refine JL_make1 n n sl57 rfl rfl rfl rfl (Nat.le_refl _) (by omega) (by omega) (fun g13 => ?_); rw [i64s_replicate]; exact JL_nil (JE_stepG (osl (some ⟨g13, 0, none⟩) n n 3 1 (i64s (List.replicate n 0))) rfl rfl (ownI_mk ⟨Nat.le_refl _, by omega⟩) ss0))), OblR_V (fun vals rs ex ψ => (by
      intro _; refine JL_normQ ⟨74, [(11, _), (12, _), (13, _), (14, _), (15, _), (16, _), (17, _), (5, _)], _⟩ (_ :: ψ) rfl rfl ?_; refine JL_m ?_; exact JL_nil (JE_stepV rfl ss0))), OblR_V (fun vals rs ex ψ => (by intro _; refine JL_normQ ⟨74, [(11, _), (12, _), (13, _), (14, _), (15, _), (16, _), (17, _), (5, _)], _⟩ (_ :: ψ) rfl rfl ?_; refine JL_shl_to (c := ((N : Nat) : Int)) rfl rfl (by omega) (by rw [← hN]; exact shl_i64 n (by omega)) ?_; exact JL_nil (JE_stepV rfl ss0))), OblR_N (fun vals rs ex ψ => (by intro _; refine JL_normG ⟨74, [(11, _), (12, _), (13, _), (14, _), (15, _), (16, _), (17, _), (5, _)], _⟩ (_ :: ψ) rfl rfl ?_; refine JL_make1 N N sl57 rfl rfl rfl rfl (Nat.le_refl _) (by omega) (by omega) (fun g16 => ?_); rw [i64s_replicate]; exact JL_nil (JE_stepG (osl (some ⟨g16, 0, none⟩) N N 3 1 (i64s (List.replicate N 0))) rfl rfl (ownI_mk ⟨Nat.le_refl _, by omega⟩) ss0))), OblR_D (fun vals rs ex ψ => (by
      rintro ⟨⟨ad13, cap13, hv13, hc13, hr13⟩, ⟨ad16, cap16, hv16, hc16, hr16⟩, -⟩; refine JL_normQ ⟨74, [(11, _), (12, _), (13, vals 2), (14, _), (15, _), (16, vals 5), (17, _), (5, _)], _⟩ (_ :: ψ) rfl rfl ?_; rw [hv13]; rw [hv16]; refine JL_build (cs := [_, _, _]) [(0, [_]), (1, [_]), (2, [_])] st114 ⟨⟨rfl, _, rfl, rfl⟩, ⟨rfl, _, rfl, rfl⟩, ⟨rfl, _, rfl, rfl⟩, rfl⟩ rfl ?_
      first | (have hq17 : x17 = Value.agg #[.int .i64 (n : Nat), vals 2, vals 5] := hv17; rw [hv13, hv16] at hq17; subst hq17) | skip
      exact JL_nil (JE_stepC [] rfl ⟨by rw [show gl (List.map vals [0, 2, 5]) 1 = Value.slice ad13 n cap13 from hv13, show gl (List.map vals [0, 2, 5]) 2 = Value.slice ad16 N cap16 from hv16]; rfl, rfl⟩ all_nil ss0))), OblR_al z114, trivial⟩ (by kernel_rfl) (fun vals rs => ?_)
  rintro ⟨⟨ad13, cap13, hv13, hc13, hr13⟩, ⟨ad16, cap16, hv16, hc16, hr16⟩, ⟨b5, hv5, hr5⟩, -⟩; refine JL_normL [_] ⟨74, [(11, _), (12, _), (13, vals 2), (14, _), (15, _), (16, vals 5), (17, vals 6), (5, vals 7)], _⟩ [box _ _ [_, _, _], rs 2, rs 5, rs 7] [_, _] rfl rfl rfl rfl ?_
  replace hv13 : vals 2 = _ := hv13
  replace hr13 : rs 2 = _ := hr13
  rw [hv13, hr13]
  replace hv16 : vals 5 = _ := hv16
  replace hr16 : rs 5 = _ := hr16
  rw [hv16, hr16]
  replace hv5 : vals 7 = _ := hv5
  replace hr5 : rs 7 = _ := hr5
  rw [hv5, hr5]; generalize hx17 : vals 6 = x17 at *; refine JL_usePost mm0 (fun φo hP => ?_); obtain ⟨hv17, rfl⟩ := hP; refine JL_norm _ [box _ _ [_, _, _], osl _ _ _ _ _ _, osl _ _ _ _ _ _, box _ _ [_, _, _]] [_, _] rfl rfl rfl ?_
  first | (have hq17 : x17 = Value.agg #[.int .i64 (n : Nat), vals 2, vals 5] := hv17; rw [hv13, hv16] at hq17; subst hq17) | skip
  refine JL_norm _ [box _ _ [_, _, _], osl _ _ _ _ _ _, osl _ _ _ _ _ _, box _ _ [_, _, _]] [_, _] rfl rfl rfl ?_; refine JL_store (vs := [_, _, _]) 3 ty114 rfl rfl rfl (AllOne.cons rfl (AllOne.cons rfl (AllOne.cons rfl AllOne.nil))) rfl (Nat.le_of_ble_eq_true rfl) ?_; refine JL_du 74 [box _ _ [_, _, _], osl _ _ _ _ _ _, osl _ _ _ _ _ _, box _ _ [_, _, _]] [_, _] ?_; refine JC_seq ?_; refine JC_seq ?_; rw [show (List.replicate n (0 : Int)) = nI (List.replicate n 0) from (nI_zero n).symm]; refine JC_region ?_; refine JL_m ?_; refine JL_len sl22 rfl ?_; refine JL_m ?_; refine JL_du 74 [box _ _ [_, _, _], osl _ _ _ _ _ _, osl _ _ _ _ _ _, box _ _ [_, _, _]] [_, _] ?_; refine JC_block ?_
  refine JC_loopS ((Nat) × (List Nat)) (fun (i, r) => i ≤ l.length ∧ prv l (List.replicate n 0) i = r) (fun (i, r) => l.length - i) (fun u (i, r) => [none, none, none, none, none, none, none, some (u 7), none, none, none, none, none, none, none, none, none, none, none, none, some (.int .i64 (i : Nat)), some (u 21), some (u 22), some (u 23), some (u 24), some (u 25), some (u 26), some (u 27), some (u 28), some (u 29), some (u 30), some (u 31), some (u 32), some (u 33), some (u 34), some (u 35), none, none, none, none, none, none, none, none, none, none, none, none, none, none, none, none, none, none, none, none, none, none, none, none, none, none, none, none, none, none, none, none, none, none, none, none, none, none]) (fun (i, r) => [none, some (osl ad13 n cap13 3 1 (i64s (nI r))), none, none]) (fun (i, r) => []) (0, (List.replicate n 0)) (by kernel_rfl) ?_ (by kernel_rfl) ?_ ?_
  · exact ⟨Nat.zero_le _, rfl⟩
  · exact subset_nil
  intro u i hC; obtain ⟨i, r⟩ := i; obtain ⟨hi, hr⟩ := hC; refine JC_nm 74 [box _ _ [_, _, _], osl _ _ _ _ _ _, osl _ _ _ _ _ _, box _ _ [_, _, _]] [_, _] ?_; refine JC_sr ?_; refine JL_lss rfl rfl ?_; refine JL_split (fun h21 => ?_) (fun h21 => ?_)
  · refine JL_du 74 [box _ _ [_, _, _], osl _ _ _ _ _ _, osl _ _ _ _ _ _, box _ _ [_, _, _]] [_, _] ?_; refine JC_seq ?_; refine JC_true rfl ?_; refine JC_skip ?_; refine JE_then ?_; refine JC_seq ?_; refine JC_block ?_; refine JC_seq ?_; obtain ⟨f, t, he, hf, ht, _⟩ := h.at (i := i) (by omega)
    have hrl : r.length = n := by rw [← hr, prv_len, List.length_replicate]
    have hrb : bnd n r := by rw [← hr]; exact prv_bnd h (bnd_zero n) (by omega)
    have hfp := pow_in hN (show f < n by omega)
    have hrt := hrb t
    rw [hN] at hrt; refine JC_region ?_; refine JL_indexAddr i sl22 rfl rfl rfl (by omega) (by first | exact Reads.view am | (exact Reads.own 1 rfl) | (exact Reads.own 2 rfl)) (by rw [pcells_length]; omega) ?_; refine JL_loadEA (vs := [_, _]) ty53 (Nat.zero_lt_succ _) rfl (by first | exact Reads.view am | (exact Reads.own 1 rfl) | (exact Reads.own 2 rfl)) (pcells_getE he (by omega)) ?_; refine JL_alloc z53 (fun b7 => ?_); refine JL_store (vs := [_, _]) 4 ty53 rfl rfl rfl (AllOne.cons rfl (AllOne.cons rfl AllOne.nil)) rfl (Nat.le_of_ble_eq_true rfl) ?_; refine JL_du 74 [box _ _ [_, _, _], osl _ _ _ _ _ _, osl _ _ _ _ _ _, box _ _ [_, _, _], box _ _ [_, _]] [_, _] ?_; refine JC_drawT mixed 9 [spV 24 [] _, spV 25 [0] _, spV 26 [] _, spV 27 [2] _, spV 28 [1, 3] _, spV 29 [4] _, spV 30 [] _, spV 31 [6] _, spV 32 [7] _] ⟨OblS_V (fun vals ex ψ => (by refine JL_normQ _ (_ :: _ :: ψ) rfl rfl ?_; refine JL_fieldAddr fo114_1 rfl ?_; exact vz rfl)), OblS_V (fun vals ex ψ => (by refine JL_normQ _ (_ :: _ :: ψ) rfl rfl ?_; refine JL_load 3 ty57 rfl rfl rfl ?_; exact vz rfl)), OblS_V (fun vals ex ψ => (by refine JL_normQ _ (_ :: _ :: ψ) rfl rfl ?_; refine JL_fieldAddr fo53_1 rfl ?_; exact vz rfl)), OblS_V (fun vals ex ψ => (by refine JL_normQ _ (_ :: _ :: ψ) rfl rfl ?_; refine JL_load 4 ty3 rfl rfl rfl ?_; exact vz rfl)), OblS_V (fun vals ex ψ => (by refine JL_normQ _ (_ :: _ :: ψ) rfl rfl ?_; refine JL_idx t sl57 rfl rfl rfl (by omega) (Reads.own 1 rfl) (by rw [i64s_length, nI_len]; omega) ?_; exact vz rfl)), OblS_V (fun vals ex ψ => (by refine JL_normQ _ (_ :: _ :: ψ) rfl rfl ?_; refine JL_loadE ty3 rfl (Reads.own 1 rfl) (nI_get (by omega)) ?_; exact vz rfl)), OblS_V (fun vals ex ψ => (by
        refine JL_normQ _ (_ :: _ :: ψ) rfl rfl ?_; refine JL_fieldAddr fo53_0 rfl ?_; exact vz rfl)), OblS_V (fun vals ex ψ => (by refine JL_normQ _ (_ :: _ :: ψ) rfl rfl ?_; refine JL_load 4 ty3 rfl rfl rfl ?_; exact vz rfl)), OblS_V (fun vals ex ψ => (by refine JL_shl_to (c := ((2 ^ f : Nat) : Int)) rfl rfl (by omega) (shl_i64 f (by omega)) ?_; exact vz rfl)), trivial⟩ (by kernel_rfl) (fun vals bs => ?_)
    refine JL_normL [_, _, _] ⟨74, [(24, _), (25, _), (26, _), (27, _), (28, _), (29, _), (30, _), (31, _), (32, _)], _⟩ [box _ _ [_, _, _], osl _ _ _ _ _ _, osl _ _ _ _ _ _, box _ _ [_, _, _], box _ _ [_, _]] [_, _] rfl rfl rfl rfl ?_; refine JL_or_to (c := ((r.getD t 0 ||| 2 ^ f : Nat) : Int)) rfl rfl (i64_or_nat _ _ (by omega) (by omega)) ?_; refine JL_idx t sl57 rfl rfl rfl (by omega) (Reads.own 1 rfl) (by rw [i64s_length, nI_len]; omega) ?_; refine JL_storeI 1 ty3 rfl rfl rfl (by rw [nI_len]; omega) ?_; rw [nI_set]; refine JL_nu 74 [box _ _ [_, _, _], osl _ _ _ _ _ _, osl _ _ _ _ _ _, box _ _ [_, _, _], box _ _ [_, _]] [_, _] ?_; refine JE_block_normal ?_; refine JE_then ?_; refine JC_region ?_; refine JL_add_to rfl rfl (IntWalk.i64_in _ (by omega)) ?_; refine JL_m ?_; refine JL_nu 74 [box _ _ [_, _, _], osl _ _ _ _ _ _, osl _ _ _ _ _ _, box _ _ [_, _, _], box _ _ [_, _]] [_, _] ?_; refine JE_dropAt 4 ?_; refine JE_norm _ [box _ _ [_, _, _], osl _ _ _ _ _ _, osl _ _ _ _ _ _, box _ _ [_, _, _]] [_, _] rfl rfl rfl ?_; refine JE_nextS (i + 1, r.set t (r.getD t 0 ||| 2 ^ f)) (by kernel_rfl) ?_ ?_ (by kernel_rfl) ?_
    · exact ⟨by omega, by rw [prv_at he, hr]⟩
    · first | omega | (dsimp only; omega)
    · exact subset_app subset_nil ss0
  · refine JL_du 74 [box _ _ [_, _, _], osl _ _ _ _ _ _, osl _ _ _ _ _ _, box _ _ [_, _, _]] [_, _] ?_; refine JC_seq ?_; refine JC_false rfl ?_; refine JC_exit ?_; refine JE_then_exit ?_; refine JE_nextS_exit ?_; refine JE_block_exit ?_; refine JE_then ?_; refine JC_seq ?_
    have hie : i = l.length := by omega
    rw [hie] at hr
    have hne : needL n l = r := hr
    have hrl : r.length = n := by rw [← hne, needL_len]
    have hrb : bnd n r := by rw [← hne]; exact needL_bnd h
    refine JC_region ?_; refine JL_m ?_; refine JL_shl_to (c := ((N : Nat) : Int)) rfl rfl (by omega) (by rw [← hN]; exact shl_i64 n (by omega)) ?_; refine JL_sub_to rfl rfl (IntWalk.i64_in _ (by omega)) ?_; rw [show (((N : Nat) : Int) - 1 : Int) = ((N - 1 : Nat) : Int) from by omega]; refine JL_assign rfl ?_; refine JL_du 74 [box _ _ [_, _, _], osl _ _ _ _ _ _, osl _ _ _ _ _ _, box _ _ [_, _, _]] [_, _] ?_; refine JC_sr ?_; refine JL_fieldAddr fo114_2 rfl ?_; refine JL_load 3 ty57 rfl rfl rfl ?_; refine JL_m ?_; refine JL_idx (N - 1) sl57 rfl rfl rfl (by omega) (Reads.own 2 rfl) (by rw [i64s_length, List.length_replicate]; omega) ?_; refine JL_storeI 2 ty3 rfl rfl rfl (by rw [List.length_replicate]; omega) ?_; refine JL_du 74 [box _ _ [_, _, _], osl _ _ _ _ _ _, osl _ _ _ _ _ _, box _ _ [_, _, _]] [_, _] ?_; refine JC_seq ?_; refine JC_sr ?_; refine JL_m ?_; refine JL_sub_to rfl rfl (IntWalk.i64_in _ (by omega)) ?_; rw [show (((N - 1 : Nat) : Int) - 1 : Int) = ((N : Nat) : Int) - 2 - ((0 : Nat) : Int) from by omega]; refine JL_assign rfl ?_
    refine JL_du 74 [box _ _ [_, _, _], osl _ _ _ _ _ _, osl _ _ _ _ _ _, box _ _ [_, _, _]] [_, _] ?_; refine JC_block ?_; refine JC_loopS ((Nat) × (List Int)) (fun (k, W) => k ≤ N - 1 ∧ wayS r n N k = W) (fun (k, W) => N - k) (fun u (k, W) => [none, none, none, none, none, none, none, none, none, some (.int .i64 (((N : Nat) : Int) - 2 - ((k : Nat) : Int))), some (u 10), none, none, none, none, none, none, none, none, none, none, none, none, none, none, none, none, none, none, none, none, none, none, none, none, none, none, none, none, none, none, none, none, none, none, some (u 45), some (u 46), some (u 47), some (u 48), some (u 49), some (u 50), some (u 51), some (u 52), some (u 53), some (u 54), some (u 55), some (u 56), some (u 57), some (u 58), some (u 59), some (u 60), some (u 61), some (u 62), some (u 63), some (u 64), some (u 65), some (u 66), some (u 67), some (u 68), some (u 69), some (u 70), some (u 71), some (u 72), none]) (fun (k, W) => [none, none, some (osl ad16 N cap16 3 1 (i64s W)), none]) (fun (k, W) => []) (0, (List.replicate N 0).set (N - 1) 1) (by kernel_rfl) ?_ (by kernel_rfl) ?_ ?_
    · exact ⟨Nat.zero_le _, rfl⟩
    · exact subset_nil
    intro u i hC; obtain ⟨k, W⟩ := i; obtain ⟨hk, hW⟩ := hC; refine JC_nm 74 [box _ _ [_, _, _], osl _ _ _ _ _ _, osl _ _ _ _ _ _, box _ _ [_, _, _]] [_, _] ?_
    have hWl : W.length = N := by rw [← hW, wayS_len]
    refine JC_seq ?_; refine JC_sr ?_; refine JL_m ?_; refine JL_geq rfl rfl ?_; refine JL_split (fun h46 => ?_) (fun h46 => ?_)
    · refine JL_du 74 [box _ _ [_, _, _], osl _ _ _ _ _ _, osl _ _ _ _ _ _, box _ _ [_, _, _]] [_, _] ?_; refine JC_true rfl ?_; refine JC_skip ?_; refine JE_then ?_; refine JC_seq ?_; refine JC_block ?_; refine JC_seq ?_; obtain ⟨s, hs⟩ : ∃ s : Nat, ((N : Nat) : Int) - 2 - ((k : Nat) : Int) = (s : Int) := ⟨N - 2 - k, by omega⟩; rw [hs]
      have hsN : s < N := by omega
      refine JC_region ?_; refine JL_m ?_; refine JL_m ?_; refine JL_du 74 [box _ _ [_, _, _], osl _ _ _ _ _ _, osl _ _ _ _ _ _, box _ _ [_, _, _]] [_, _] ?_; refine JC_block ?_; refine JC_loopS ((Nat) × (List Int)) (fun (b, X) => b ≤ n ∧ wayV r s W b = X) (fun (b, X) => n - b) (fun u (b, X) => [none, none, none, none, none, none, none, none, none, none, some (u 10), none, none, none, none, none, none, none, none, none, none, none, none, none, none, none, none, none, none, none, none, none, none, none, none, none, none, none, none, none, none, none, none, none, none, none, none, none, none, none, some (.int .i64 (b : Nat)), some (u 51), some (u 52), some (u 53), some (u 54), some (u 55), some (u 56), some (u 57), some (u 58), some (u 59), some (u 60), some (u 61), some (u 62), some (u 63), some (u 64), some (u 65), some (u 66), some (u 67), some (u 68), some (u 69), some (u 70), some (u 71), some (u 72), none]) (fun (b, X) => [none, none, some (osl ad16 N cap16 3 1 (i64s X)), none]) (fun (b, X) => []) (0, W) (by kernel_rfl) ?_ (by kernel_rfl) ?_ ?_
      · exact ⟨Nat.zero_le _, rfl⟩
      · exact subset_nil
      intro u i hC; obtain ⟨b, X⟩ := i; obtain ⟨hb, hX⟩ := hC; refine JC_nm 74 [box _ _ [_, _, _], osl _ _ _ _ _ _, osl _ _ _ _ _ _, box _ _ [_, _, _]] [_, _] ?_
      have hXl : X.length = N := by rw [← hX, wayV_len, hWl]
      refine JC_sr ?_; refine JL_lss rfl rfl ?_; refine JL_split (fun h51 => ?_) (fun h51 => ?_)
      · refine JL_du 74 [box _ _ [_, _, _], osl _ _ _ _ _ _, osl _ _ _ _ _ _, box _ _ [_, _, _]] [_, _] ?_; refine JC_seq ?_; refine JC_true rfl ?_; refine JC_skip ?_; refine JE_then ?_; refine JC_seq ?_; refine JC_block ?_; refine JC_sr ?_; refine JL_m ?_; refine JL_assign rfl ?_; refine JL_du 74 [box _ _ [_, _, _], osl _ _ _ _ _ _, osl _ _ _ _ _ _, box _ _ [_, _, _]] [_, _] ?_; refine JC_sr ?_; refine JL_loadA (vs := [_, _, _]) 3 ty114 rfl rfl ⟨rfl, rfl, rfl, trivial⟩ ?_; refine JL_m ?_; refine JL_m ?_; refine JL_callF' (Asks.cons (by first | exact holds_of_mem am | (exact holds_of_own 1 rfl) | (exact holds_of_own 2 rfl)) Asks.nil) (ready_con (r := r) (s := s) (b := b) hrl (by omega) hn hrb (by omega)) rfl ca94 ⟨rfl, rfl, rfl, rfl⟩ ?_; rintro _ _ ⟨rfl, rfl⟩; refine JL_splitV (fun h56 => ?_) (fun h56 => ?_)
        · refine JL_du 74 [box _ _ [_, _, _], osl _ _ _ _ _ _, osl _ _ _ _ _ _, box _ _ [_, _, _]] [_, _] ?_; refine JC_true rfl ?_
          have hpb := pow_in hN (show b < n by omega)
          have hob := (or_in hN (show s < N by omega) (show b < n by omega))
          refine JC_drawT mixed 13 [spV 57 [] _, spV 58 [0] _, spV 59 [] _, spV 60 [1, 2] _, spV 61 [3] _, spV 62 [] _, spV 63 [5] _, spV 64 [] _, spV 65 [] _, spV 66 [8] _, spV 67 [7, 9] _, spV 68 [6, 10] _, spV 69 [11] _] ⟨OblS_V (fun vals ex ψ => (by refine JL_normQ _ (_ :: _ :: ψ) rfl rfl ?_; refine JL_fieldAddr fo114_2 rfl ?_; exact vz rfl)), OblS_V (fun vals ex ψ => (by refine JL_normQ _ (_ :: _ :: ψ) rfl rfl ?_; refine JL_load 3 ty57 rfl rfl rfl ?_; exact vz rfl)), oM, OblS_V (fun vals ex ψ => (by refine JL_normQ _ (_ :: _ :: ψ) rfl rfl ?_; refine JL_idx s sl57 rfl rfl rfl (by omega) (Reads.own 2 rfl) (by rw [i64s_length]; omega) ?_; exact vz rfl)), OblS_V (fun vals ex ψ => (by refine JL_normQ _ (_ :: _ :: ψ) rfl rfl ?_; refine JL_loadE ty3 rfl (Reads.own 2 rfl) (i64s_get (by omega)) ?_; exact vz rfl)), OblS_V (fun vals ex ψ => (by refine JL_normQ _ (_ :: _ :: ψ) rfl rfl ?_; refine JL_fieldAddr fo114_2 rfl ?_; exact vz rfl)), OblS_V (fun vals ex ψ => (by refine JL_normQ _ (_ :: _ :: ψ) rfl rfl ?_; refine JL_load 3 ty57 rfl rfl rfl ?_; exact vz rfl)), oM, oM, OblS_V (fun vals ex ψ => (by refine JL_shl_to (c := ((2 ^ b : Nat) : Int)) rfl rfl (by omega) (shl_i64 b (by omega)) ?_; exact vz rfl)), OblS_V (fun vals ex ψ => (by refine JL_or_to (c := ((s ||| 2 ^ b : Nat) : Int)) rfl rfl (i64_or_nat s (2 ^ b) (by omega) (by omega)) ?_; exact vz rfl)), OblS_V (fun vals ex ψ => (by refine JL_normQ _ (_ :: _ :: ψ) rfl rfl ?_; refine JL_idx (s ||| 2 ^ b) sl57 rfl rfl rfl (by omega) (Reads.own 2 rfl) (by rw [i64s_length]; omega) ?_; exact vz rfl)), OblS_V (fun vals ex ψ => (by refine JL_normQ _ (_ :: _ :: ψ) rfl rfl ?_; refine JL_loadE ty3 rfl (Reads.own 2 rfl) (i64s_get (by omega)) ?_; exact vz rfl)), trivial⟩ (by kernel_rfl) (fun vals bs => ?_)
          refine JL_normL [_, _, _] ⟨74, [(57, _), (58, _), (59, _), (60, _), (61, _), (62, _), (63, _), (64, _), (65, _), (66, _), (67, _), (68, _), (69, _)], _⟩ [box _ _ [_, _, _], osl _ _ _ _ _ _, osl _ _ _ _ _ _, box _ _ [_, _, _]] [_, _] rfl rfl rfl rfl ?_; refine JL_add_to rfl rfl rfl ?_; refine JL_idx s sl57 rfl rfl rfl (by omega) (Reads.own 2 rfl) (by rw [i64s_length]; omega) ?_; refine JL_storeI 2 ty3 rfl rfl rfl (by omega) ?_; refine JL_nu 74 [box _ _ [_, _, _], osl _ _ _ _ _ _, osl _ _ _ _ _ _, box _ _ [_, _, _]] [_, _] ?_; refine JE_block_normal ?_; refine JE_then ?_; refine JC_region ?_; refine JL_add_to rfl rfl (IntWalk.i64_in _ (by omega)) ?_; refine JL_m ?_; refine JL_nu 74 [box _ _ [_, _, _], osl _ _ _ _ _ _, osl _ _ _ _ _ _, box _ _ [_, _, _]] [_, _] ?_; refine JE_nextS (b + 1, X.set s (w64 (X.getD s 0 + X.getD (s ||| 2 ^ b) 0))) (by kernel_rfl) ?_ ?_ (by kernel_rfl) ?_
          · exact ⟨by omega, by rw [wayV, hX, if_pos h56]⟩
          · first | omega | (dsimp only; omega)
          · exact subset_app subset_nil ss0
        · refine JL_du 74 [box _ _ [_, _, _], osl _ _ _ _ _ _, osl _ _ _ _ _ _, box _ _ [_, _, _]] [_, _] ?_; refine JC_false rfl ?_; refine JC_skip ?_; refine JE_block_normal ?_; refine JE_then ?_; refine JC_region ?_; refine JL_add_to rfl rfl (IntWalk.i64_in _ (by omega)) ?_; refine JL_m ?_; refine JL_nu 74 [box _ _ [_, _, _], osl _ _ _ _ _ _, osl _ _ _ _ _ _, box _ _ [_, _, _]] [_, _] ?_; refine JE_nextS (b + 1, X) (by kernel_rfl) ?_ ?_ (by kernel_rfl) ?_
          · exact ⟨by omega, by rw [wayV, hX, if_neg (by rw [h56]; decide)]⟩
          · first | omega | (dsimp only; omega)
          · exact subset_app subset_nil ss0
      · refine JL_du 74 [box _ _ [_, _, _], osl _ _ _ _ _ _, osl _ _ _ _ _ _, box _ _ [_, _, _]] [_, _] ?_; refine JC_seq ?_; refine JC_false rfl ?_; refine JC_exit ?_; refine JE_then_exit ?_; refine JE_nextS_exit ?_; refine JE_block_exit ?_; refine JE_block_normal ?_; refine JE_then ?_; refine JC_region ?_; refine JL_m ?_; refine JL_sub_to rfl rfl (IntWalk.i64_in _ (by omega)) ?_; rw [show ((s : Int) - 1 : Int) = ((N : Nat) : Int) - 2 - ((k + 1 : Nat) : Int) from by omega]; refine JL_assign rfl ?_; refine JL_nu 74 [box _ _ [_, _, _], osl _ _ _ _ _ _, osl _ _ _ _ _ _, box _ _ [_, _, _]] [_, _] ?_; refine JE_nextS (k + 1, X) (by kernel_rfl) ?_ ?_ (by kernel_rfl) ?_
        · exact ⟨by omega, by rw [wayS, hW, ← hX, show N - 2 - k = s from by omega, show b = n from by omega]⟩
        · first | omega | (dsimp only; omega)
        · exact subset_app subset_nil ss0
    · refine JL_du 74 [box _ _ [_, _, _], osl _ _ _ _ _ _, osl _ _ _ _ _ _, box _ _ [_, _, _]] [_, _] ?_; refine JC_false rfl ?_; refine JC_exit ?_; refine JE_then_exit ?_; refine JE_nextS_exit ?_; refine JE_block_exit ?_; refine JE_then ?_; refine JC_sr ?_; refine JL_loadA (vs := [_, _, _]) 3 ty114 rfl rfl ⟨rfl, rfl, rfl, trivial⟩ ?_; refine JL_store (vs := [_, _, _]) 0 ty114 rfl rfl rfl (AllOne.cons rfl (AllOne.cons rfl (AllOne.cons rfl AllOne.nil))) rfl (Nat.le_of_ble_eq_true rfl) ?_; refine JL_du 74 [box _ _ [_, _, _], osl _ _ _ _ _ _, osl _ _ _ _ _ _, box _ _ [_, _, _]] [_, _] ?_; refine JC_ret ?_; refine JE_give 1 rfl ?_; refine JE_norm _ [box _ _ [_, _, _], osl _ _ _ _ _ _, box _ _ [_, _, _]] [_, _, _] rfl rfl rfl ?_; refine JE_give 1 rfl ?_; refine JE_norm _ [box _ _ [_, _, _], box _ _ [_, _, _]] [_, _, _, _] rfl rfl rfl ?_; refine JE_ret (vs := [_]) [vCells ad13 (i64s (nI r)), vCells ad16 (i64s W)] Tryz.results93 ⟨RV.cell (vs := [_, _, _]) 0 ty114 rfl rfl ⟨rfl, rfl, rfl, trivial⟩, rfl⟩ ?_ ?_
      · rw [hne, ways_end hN hne hW (by omega)]; exact ⟨ad13, cap13, ad16, cap16, by rw [hWl]; rfl, rfl⟩
      · exact (all_cons am (all_cons am all_nil))

theorem scnt_con {ad : Option Addr} {c : Nat} {l : List Pr} {n : Int} (hln : l.length ≤ 1000000) :
    ConF Tryz.prog 73 [.int .i64 n, .slice ad l.length c] [vCells ad (pcells l)]
      (fun v φo => v = .tuple #[.int .i64 (cntN n l), .int .i64 (seqE n l)] ∧ φo = []) := by
  refine ConF_of Tryz.func73 rfl 19 _ rfl rfl ?_; intro w0; refine JC_norm ⟨19, [], [_, _, _, _, _, _, _, _, _, _, _, _, _, _, _, _, _, _, _]⟩ [] [_] rfl rfl rfl ?_; refine JC_sr ?_; refine JL_assign rfl ?_; refine JL_assign rfl ?_; refine JL_du 19 [] [_] ?_; refine JC_seq ?_; refine JC_sr ?_; refine JL_m ?_; refine JL_m ?_; refine JL_callF' (Asks.cons (holds_of_mem am) Asks.nil) (schk_con hln) rfl ca92 ⟨rfl, rfl, rfl⟩ ?_; rintro _ _ ⟨rfl, rfl⟩; refine JL_assign rfl ?_; refine JL_du 19 [] [_] ?_; refine JC_sr ?_; refine JL_m ?_; refine JL_neq rfl rfl ?_; refine JL_split (fun h11 => ?_) (fun h11 => ?_)
  · refine JL_du 19 [] [_] ?_; refine JC_true rfl ?_; refine JC_sr ?_; refine JL_m ?_; refine JL_assign rfl ?_; refine JL_assign rfl ?_; refine JL_du 19 [] [_] ?_; refine JC_ret ?_; refine JE_then_ret ?_; refine JE_ret (vs := [_, _]) [] Tryz.results73 ⟨rfl, rfl, rfl⟩ ?_ ?_
    · rw [cntN_no h11]; exact ⟨rfl, rfl⟩
    · exact all_nil
  · refine JL_du 19 [] [_] ?_; refine JC_false rfl ?_; refine JC_skip ?_; refine JE_then ?_; refine JC_seq ?_
    have hz : seqE n l = 0 := Classical.byContradiction h11
    obtain ⟨hd, hn10, _⟩ := seqE_zero hz; obtain ⟨m, rfl⟩ : ∃ m : Nat, n = (m : Int) := ⟨n.toNat, by have := hd.1.1; omega⟩
    have hwl := waysL_len m l
    have hp : 0 < 2 ^ m := Nat.pow_pos (by decide)
    refine JC_region ?_; refine JL_m ?_; refine JL_m ?_; refine JL_callF' (Asks.cons (holds_of_mem am) Asks.nil) (sof_con hd hln (by omega) rfl) rfl ca93 ⟨rfl, rfl, rfl⟩ ?_; rintro _ _ ⟨ad15, c15, adw15, cw15, rfl, rfl⟩; refine JL_fieldN fv114_2 rfl rfl ?_; refine JL_idx 0 sl57 rfl rfl rfl (by rw [hwl]; exact hp) (by first | exact Reads.view am) (by rw [i64s_length, hwl]; simpa using hp) ?_; refine JL_loadE ty3 rfl (by first | exact Reads.view am) (i64s_get (by rw [hwl]; exact hp)) ?_; refine JL_assign rfl ?_; refine JL_assign rfl ?_; refine JL_du 19 [] [_, _, _] ?_; refine JC_ret ?_; refine JE_ret (vs := [_, _]) [] Tryz.results73 ⟨rfl, rfl, rfl⟩ ?_ ?_
    · rw [cntN_ok hz, hz, Int.toNat_natCast]; exact ⟨rfl, rfl⟩
    · exact all_nil

theorem cntd_con {ad : Option Addr} {c : Nat} {l : List Pr} {n : Int} (hln : l.length ≤ 1000000) :
    ConF Tryz.prog 40 [.int .i64 n, .slice ad l.length c] [vCells ad (pcells l)]
      (fun v φo => v = .tuple #[.int .i64 (cntN n l), .int .i64 (seqE n l)] ∧ φo = []) := by
  refine ConF_of Tryz.func40 rfl 11 _ rfl rfl ?_; intro w0; refine JC_norm ⟨11, [], [_, _, _, _, _, _, _, _, _, _, _]⟩ [] [_] rfl rfl rfl ?_; refine JC_sr ?_; refine JL_assign rfl ?_; refine JL_assign rfl ?_; refine JL_du 11 [] [_] ?_; refine JC_sr ?_; refine JL_m ?_; refine JL_m ?_; refine JL_callF' (Asks.cons (holds_of_mem am) Asks.nil) (scnt_con hln) rfl ca73 ⟨rfl, rfl, rfl⟩ ?_; rintro _ _ ⟨rfl, rfl⟩; refine JL_extract rfl rfl ?_; refine JL_extract rfl rfl ?_; refine JL_assign rfl ?_; refine JL_assign rfl ?_; refine JL_du 11 [] [_] ?_; refine JC_ret ?_; refine JE_ret (vs := [_, _]) [] Tryz.results40 ⟨rfl, rfl, rfl⟩ ?_ ?_
  · exact ⟨rfl, rfl⟩
  · exact all_nil

theorem shared_con {ad : Option Addr} {c : Nat} {l : List Pr} {n : Int} (hln : l.length ≤ 1000000) :
    ConF Tryz.prog 12 [.int .i64 n, .slice ad l.length c] [vCells ad (pcells l)]
      (SPP (shrR n l) (seqE n l)) := by
  refine ConF_of Tryz.func12 rfl 22 _ rfl rfl ?_; intro w0; refine JC_norm ⟨22, [], [_, _, _, _, _, _, _, _, _, _, _, _, _, _, _, _, _, _, _, _, _, _]⟩ [] [_] rfl rfl rfl ?_; refine JC_sr ?_; refine JL_assign rfl ?_; refine JL_assign rfl ?_; refine JL_du 22 [] [_] ?_; refine JC_seq ?_; refine JC_sr ?_; refine JL_m ?_; refine JL_m ?_; refine JL_callF' (Asks.cons (holds_of_mem am) Asks.nil) (cntd_con hln) rfl ca40 ⟨rfl, rfl, rfl⟩ ?_; rintro _ _ ⟨rfl, rfl⟩; refine JL_m ?_; refine JL_extract rfl rfl ?_; refine JL_extract rfl rfl ?_; refine JL_assign rfl ?_; refine JL_assign rfl ?_; refine JL_du 22 [] [_] ?_; refine JC_sr ?_; refine JL_m ?_; refine JL_neq rfl rfl ?_; refine JL_split (fun h15 => ?_) (fun h15 => ?_)
  · refine JL_du 22 [] [_] ?_; refine JC_true rfl ?_; refine JC_sr ?_; refine JL_m ?_; refine JL_assign rfl ?_; refine JL_assign rfl ?_; refine JL_du 22 [] [_] ?_; refine JC_ret ?_; refine JE_then_ret ?_; refine JE_addView (f := true) (p := vCells none (pcells [])) (fun _ _ => nilP) ?_; refine JE_ret (vs := [_, _]) [vCells none (pcells [])] Tryz.results12 ⟨rfl, rfl, rfl⟩ ?_ ?_
    · rw [shr_no h15]; exact ⟨none, 0, rfl, caps0, rfl⟩
    · exact (all_cons am all_nil)
  · refine JL_du 22 [] [_] ?_; refine JC_false rfl ?_; refine JC_skip ?_; refine JE_then ?_; refine JC_seq ?_
    have hz : seqE n l = 0 := Classical.byContradiction h15
    obtain ⟨hd, _, _⟩ := seqE_zero hz; refine JC_region ?_; refine JL_m ?_; refine JL_m ?_; refine JL_callF' (Asks.cons (holds_of_mem am) Asks.nil) (cls_con hln) rfl ca25 ⟨rfl, rfl, rfl⟩ ?_; rintro _ _ ⟨ad19, c19, rfl, hc19, rfl⟩; rw [(cls_ok hd).2]; refine JL_extract rfl rfl ?_; refine JL_extract rfl rfl ?_; refine JL_assign rfl ?_; refine JL_assign rfl ?_; refine JL_du 22 [] [_, _] ?_; refine JC_ret ?_; refine JE_ret (vs := [_, _]) [vCells ad19 (pcells (clsR n l))] Tryz.results12 ⟨rfl, rfl, rfl⟩ ?_ ?_
    · rw [shr_ok hz, hz]; exact ⟨ad19, c19, rfl, hc19, rfl⟩
    · exact (all_cons am all_nil)

end Go.Fw.K
