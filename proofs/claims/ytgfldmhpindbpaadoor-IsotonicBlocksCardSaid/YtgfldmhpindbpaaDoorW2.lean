/- Walks through functions of the given program: each meets its contract. (Printed by a program of this repo.) -/
import Derived.Test.YtgfldmhpindbpaaDoorW1
import Derived.Test.YtgfldmhpindbpaaDoorProg
namespace Go.Fw.W2
open Go Go.RowKit Go.Proofs Go.Nat9 Go.Fw
attribute [local irreducible] JC JL JE
theorem ca59 : callable Tryd.prog 59 = true := by kernel_rfl
theorem it2 : intTy Tryd.prog 2 = some .i64 := by kernel_rfl
theorem it86 : intTy Tryd.prog 86 = some .u32 := by kernel_rfl
theorem sl32 : slOf Tryd.prog 32 = some (86, 1, 4, [.int .u32 0]) := by kernel_rfl
theorem ty86 : tyOf Tryd.prog 86 = some (false, 1) := by kernel_rfl
theorem us2 : (Tryd.prog.underlying 2).isSome = true := by kernel_rfl
theorem us86 : (Tryd.prog.underlying 86).isSome = true := by kernel_rfl
end Go.Fw.W2
namespace Go.Fw.K
open Go Go.RowKit Go.Proofs Go.Nat9 Go.Fw Go.Fw.W2
attribute [local irreducible] JC JL JE

theorem plus_con (ad1 : Option Addr) (n1 c1 : Nat) (ad2 : Option Addr) (n2 c2 : Nat) (n m : Nat) (h1 : (limbsOf n).length = n1) (h2 : (limbsOf m).length = n2) (hb : n1 ≤ 1000000000) (hb2 : n2 ≤ 1000000000) :
    ConF Tryd.prog 53 [.slice ad1 n1 c1, .slice ad2 n2 c2] [vCells ad1 (u32s (limbsOf n)), vCells ad2 (u32s (limbsOf m))]
      (LS (n + m)) := by
  refine ConF_of Tryd.func53 rfl 54 _ rfl rfl ?_
  intro w0
  refine JC_norm ⟨54, [], [_, _, _, _, _, _, _, _, _, _, _, _, _, _, _, _, _, _, _, _, _, _, _, _, _, _, _, _, _, _, _, _, _, _, _, _, _, _, _, _, _, _, _, _, _, _, _, _, _, _, _, _, _, _]⟩ [] [_, _] rfl rfl rfl ?_
  refine JC_seq ?_
  refine JC_region ?_
  refine JL_assign rfl ?_
  refine JL_done_up 54 [] [_, _] rfl rfl (by simp only [nrmF]; rfl) rfl rfl ?_
  refine JC_seq ?_
  refine JC_seq ?_
  refine JC_region ?_
  refine JL_move rfl ?_
  refine JL_len sl32 rfl ?_
  refine JL_move rfl ?_
  refine JL_len sl32 rfl ?_
  refine JL_lss rfl rfl ?_
  refine JL_done_up 54 [] [_, _] rfl rfl (by simp only [nrmF]; rfl) rfl rfl ?_
  refine JC_cutT ((Option Addr) × (Nat) × (Nat) × (Nat) × (Option Addr) × (Nat) × (Nat) × (Nat)) (fun (xa, xn, xc, x, ya, yn, yc, y) => (limbsOf x).length = xn ∧ (limbsOf y).length = yn ∧ yn ≤ xn ∧ xn ≤ 1000000000 ∧ x + y = n + m) (fun u (xa, xn, xc, x, ya, yn, yc, y) => [some (.slice xa xn xc), some (.slice ya yn yc), none, none, none, none, none, none, none, none, none, none, none, none, none, some (u 15), some (u 16), none, none, none, none, none, none, none, none, none, none, none, none, none, none, none, none, none, none, none, none, none, none, none, none, none, none, none, none, none, none, none, none, none, none, none, none, none]) (fun (xa, xn, xc, x, ya, yn, yc, y) => []) (fun (xa, xn, xc, x, ya, yn, yc, y) => [(false, vCells xa (u32s (limbsOf x))), (false, vCells ya (u32s (limbsOf y)))]) ?_ ?_
  · refine JC_cond rfl (fun hb => ?_) (fun hb => ?_)
    · have h14 := of_decide_eq_true hb
      refine JC_region ?_
      refine JL_move rfl ?_
      refine JL_move rfl ?_
      refine JL_assign rfl ?_
      refine JL_assign rfl ?_
      refine JL_nil_up 54 [] [_, _] rfl rfl (by simp only [nrmF]; rfl) rfl rfl ?_
      refine JE_midS (ad2, n2, c2, m, ad1, n1, c1, n) (by kernel_rfl) ?_ (by kernel_rfl) ?_
      · exact ⟨h2, h1, by omega, by omega, by omega⟩
      · exact subset_app (subset_cons (by repeat (first | with_reducible exact mm0 | refine mmS ?_)) (subset_cons (by repeat (first | with_reducible exact mm0 | refine mmS ?_)) subset_nil)) ss0
    · have h14 := of_decide_eq_false hb
      refine JC_skip ?_
      refine JE_midS (ad1, n1, c1, n, ad2, n2, c2, m) (by kernel_rfl) ?_ (by kernel_rfl) ?_
      · exact ⟨h1, h2, by omega, by omega, by omega⟩
      · exact subset_app (subset_cons (by repeat (first | with_reducible exact mm0 | refine mmS ?_)) (subset_cons (by repeat (first | with_reducible exact mm0 | refine mmS ?_)) subset_nil)) ss0
  intro u i hC
  obtain ⟨xa, xn, xc, x, ya, yn, yc, y⟩ := i
  obtain ⟨hx, hy, hyx, hxb, hxy⟩ := hC
  refine JC_norm ⟨54, [], [_, _, _, _, _, _, _, _, _, _, _, _, _, _, _, _, _, _, _, _, _, _, _, _, _, _, _, _, _, _, _, _, _, _, _, _, _, _, _, _, _, _, _, _, _, _, _, _, _, _, _, _, _, _]⟩ [] [_, _, _, _] rfl rfl rfl ?_
  refine JC_seq ?_
  refine JC_region ?_
  refine JL_move rfl ?_
  refine JL_len sl32 rfl ?_
  refine JL_add_to rfl rfl (IntWalk.i64_in _ (by omega)) ?_
  refine JL_make1 0 (xn + 1) sl32 rfl rfl rfl (by omega) (by omega) (by omega) (by omega) (fun g20 => ?_)
  rw [u32s_replicate]
  refine JL_assign rfl ?_
  refine JL_done_up 54 [osl _ _ _ _ _ _] [_, _, _, _] rfl rfl (by simp only [nrmF]; rfl) rfl rfl ?_
  refine JC_seq ?_
  refine JC_region ?_
  refine JL_assign rfl ?_
  refine JL_done_up 54 [osl _ _ _ _ _ _] [_, _, _, _] rfl rfl (by simp only [nrmF]; rfl) rfl rfl ?_
  refine JC_seq ?_
  refine JC_seq ?_
  refine JC_region ?_
  refine JL_move rfl ?_
  refine JL_len sl32 rfl ?_
  refine JL_move rfl ?_
  refine JL_done_up 54 [osl _ _ _ _ _ _] [_, _, _, _] rfl rfl (by simp only [nrmF]; rfl) rfl rfl ?_
  refine JC_block ?_
  refine JC_loopS ((Nat) × (List Nat) × (Nat) × (Option Addr) × (Nat)) (fun (k, out, c, ad, cap) => k ≤ xn ∧ out.length = k ∧ Dig out ∧ c ≤ 1 ∧ val out + 1000000000 ^ k * c = val ((limbsOf x).take k) + val ((limbsOf y).take k) ∧ k ≤ cap ∧ cap ≤ 9223372036854775807) (fun (k, out, c, ad, cap) => xn - k) (fun u (k, out, c, ad, cap) => [none, none, none, none, none, some (.slice ad k cap), some (.int .u32 (c : Nat)), some (u 7), some (u 8), some (u 9), none, none, none, none, none, none, none, none, none, none, none, none, none, some (.int .i64 (k : Nat)), some (u 24), some (u 25), some (u 26), some (u 27), some (u 28), some (u 29), some (u 30), some (u 31), some (u 32), some (u 33), some (u 34), some (u 35), some (u 36), some (u 37), some (u 38), some (u 39), some (u 40), some (u 41), some (u 42), some (u 43), some (u 44), some (u 45), some (u 46), some (u 47), some (u 48), none, none, none, none, none]) (fun (k, out, c, ad, cap) => [some (osl ad k cap 86 1 (u32s out))]) (fun (k, out, c, ad, cap) => []) (0, [], 0, some ⟨g20, 0, none⟩, xn + 1) (by kernel_rfl) ?_ (by kernel_rfl) ?_ ?_
  · exact ⟨Nat.zero_le _, rfl, Dig.nil, by omega, by simp [val], by omega, by omega⟩
  · exact subset_nil
  intro u i hC
  obtain ⟨k, out, c, ad, cap⟩ := i
  obtain ⟨hk, ho, hd, hc, hv, hcap, hm⟩ := hC
  refine JC_norm ⟨54, [], [_, _, _, _, _, _, _, _, _, _, _, _, _, _, _, _, _, _, _, _, _, _, _, _, _, _, _, _, _, _, _, _, _, _, _, _, _, _, _, _, _, _, _, _, _, _, _, _, _, _, _, _, _, _]⟩ [osl _ _ _ _ _ _] [_, _, _, _] rfl rfl rfl ?_
  have hX := (dig_limbsOf x).getD k
  have hY := (dig_limbsOf y).getD k
  refine JC_seq ?_
  refine JC_region ?_
  refine JL_lss rfl rfl ?_
  refine JL_split (fun h24 => ?_) (fun h24 => ?_)
  · refine JL_done_up 54 [osl _ _ _ _ _ _] [_, _, _, _] rfl rfl (by simp only [nrmF]; rfl) rfl rfl ?_
    refine JC_seq ?_
    refine JC_true rfl ?_
    refine JC_skip ?_
    refine JE_then ?_
    refine JC_seq ?_
    refine JC_block ?_
    refine JC_seq ?_
    refine JC_region ?_
    refine JL_move rfl ?_
    refine JL_idx k sl32 rfl rfl rfl (by omega) (by first | exact Reads.view (by repeat (first | with_reducible exact mm0 | refine mmS ?_)) | (exact Reads.own 0 rfl)) (by first | (rw [u32s_length]; omega) | (rw [i64s_length]; omega)) ?_
    refine JL_loadE ty86 rfl (by first | exact Reads.view (by repeat (first | with_reducible exact mm0 | refine mmS ?_)) | (exact Reads.own 0 rfl)) (u32s_get (by omega)) ?_
    refine JL_assign rfl ?_
    refine JL_assign rfl ?_
    refine JL_done_up 54 [osl _ _ _ _ _ _] [_, _, _, _] rfl rfl (by simp only [nrmF]; rfl) rfl rfl ?_
    refine JC_seq ?_
    refine JC_region ?_
    refine JL_move rfl ?_
    refine JL_move rfl ?_
    refine JL_add_to rfl rfl (IntWalk.u32_in _ (by omega)) ?_
    refine JL_assign rfl ?_
    refine JL_done_up 54 [osl _ _ _ _ _ _] [_, _, _, _] rfl rfl (by simp only [nrmF]; rfl) rfl rfl ?_
    refine JC_seq ?_
    refine JC_seq ?_
    refine JC_region ?_
    refine JL_move rfl ?_
    refine JL_move rfl ?_
    refine JL_len sl32 rfl ?_
    refine JL_lss rfl rfl ?_
    refine JL_done_up 54 [osl _ _ _ _ _ _] [_, _, _, _] rfl rfl (by simp only [nrmF]; rfl) rfl rfl ?_
    refine JC_cutT ((Nat)) (fun (t : Nat) => t = (limbsOf x).getD k 0 + c + (limbsOf y).getD k 0) (fun u (t : Nat) => [none, none, none, none, none, none, none, none, none, some (.int .u32 (t : Nat)), none, none, none, none, none, none, none, none, none, none, none, none, none, none, none, none, none, none, none, none, none, none, none, none, none, some (u 35), some (u 36), some (u 37), some (u 38), some (u 39), some (u 40), none, none, none, none, none, none, none, none, none, none, none, none, none]) (fun (t : Nat) => [none]) (fun (t : Nat) => []) ?_ ?_
    · refine JC_cond rfl (fun hb => ?_) (fun hb => ?_)
      · have h34 := of_decide_eq_true hb
        refine JC_region ?_
        refine JL_move rfl ?_
        refine JL_move rfl ?_
        refine JL_move rfl ?_
        refine JL_idx k sl32 rfl rfl rfl (by omega) (by first | exact Reads.view (by repeat (first | with_reducible exact mm0 | refine mmS ?_)) | (exact Reads.own 0 rfl)) (by first | (rw [u32s_length]; omega) | (rw [i64s_length]; omega)) ?_
        refine JL_loadE ty86 rfl (by first | exact Reads.view (by repeat (first | with_reducible exact mm0 | refine mmS ?_)) | (exact Reads.own 0 rfl)) (u32s_get (by omega)) ?_
        refine JL_add_to rfl rfl (IntWalk.u32_in _ (by omega)) ?_
        refine JL_assign rfl ?_
        refine JL_nil_up 54 [osl _ _ _ _ _ _] [_, _, _, _] rfl rfl (by simp only [nrmF]; rfl) rfl rfl ?_
        refine JE_midS ((limbsOf x).getD k 0 + c + (limbsOf y).getD k 0) (by kernel_rfl) ?_ (by kernel_rfl) ?_
        · exact rfl
        · exact subset_app subset_nil ss0
      · have h34 := of_decide_eq_false hb
        refine JC_skip ?_
        refine JE_midS ((limbsOf x).getD k 0 + c) (by kernel_rfl) ?_ (by kernel_rfl) ?_
        · show _ = _ + _ + _; rw [getD_of_ge (limbsOf y) k (by omega)]; omega
        · exact subset_app subset_nil ss0
    intro u t ht
    refine JC_norm ⟨54, [], [_, _, _, _, _, _, _, _, _, _, _, _, _, _, _, _, _, _, _, _, _, _, _, _, _, _, _, _, _, _, _, _, _, _, _, _, _, _, _, _, _, _, _, _, _, _, _, _, _, _, _, _, _, _]⟩ [osl _ _ _ _ _ _] [_, _, _, _] rfl rfl rfl ?_
    refine JC_seq ?_
    refine JC_region ?_
    refine JL_move rfl ?_
    refine JL_quo_to rfl rfl (by omega) (IntWalk.u32_quo _ _ (by omega)) ?_
    refine JL_assign rfl ?_
    refine JL_done_up 54 [osl _ _ _ _ _ _] [_, _, _, _] rfl rfl (by simp only [nrmF]; rfl) rfl rfl ?_
    refine JC_region ?_
    refine JL_move rfl ?_
    refine JL_move rfl ?_
    refine JL_rem_to rfl rfl (by omega) (IntWalk.rem_in _ _ (by omega)) ?_
    refine JL_build1 sl32 rfl rfl (fun g46 => ?_)
    refine JL_appendU (L := _) 0 1 (t % 1000000000) sl32 rfl rfl rfl rfl (by omega) (by omega) (by omega) (fun ad47 cap47 hc47 => ?_)
    refine JL_dropAt 1 ?_
    refine JL_norm _ [osl _ _ _ _ _ _] [_, _, _, _] rfl rfl rfl ?_
    refine JL_assign rfl ?_
    refine JL_nil_up 54 [osl _ _ _ _ _ _] [_, _, _, _] rfl rfl (by simp only [nrmF]; rfl) rfl rfl ?_
    refine JE_block_normal ?_
    refine JE_then ?_
    refine JC_region ?_
    refine JL_add_to rfl rfl (IntWalk.i64_in _ (by omega)) ?_
    refine JL_move rfl ?_
    refine JL_nil_up 54 [osl _ _ _ _ _ _] [_, _, _, _] rfl rfl (by simp only [nrmF]; rfl) rfl rfl ?_
    refine JE_nextS (k + 1, out ++ [t % 1000000000], t / 1000000000, ad47, cap47) (by kernel_rfl) ?_ ?_ (by kernel_rfl) ?_
    · exact ⟨by omega, by rw [len_snoc]; omega, dig_snoc hd (Nat.mod_lt _ (by decide)), by omega, plus_step ho hv ht, by omega, by omega⟩
    · first | omega | (dsimp only; omega)
    · exact subset_app subset_nil ss0
  · refine JL_done_up 54 [osl _ _ _ _ _ _] [_, _, _, _] rfl rfl (by simp only [nrmF]; rfl) rfl rfl ?_
    refine JC_seq ?_
    refine JC_false rfl ?_
    refine JC_exit ?_
    refine JE_then_exit ?_
    refine JE_nextS_exit ?_
    refine JE_block_exit ?_
    refine JE_then ?_
    refine JC_seq ?_
    refine JC_region ?_
    refine JL_move rfl ?_
    refine JL_move rfl ?_
    refine JL_build1 sl32 rfl rfl (fun g51 => ?_)
    refine JL_appendU (L := _) 0 1 c sl32 rfl rfl rfl rfl (by omega) (by omega) (by omega) (fun ad52 cap52 hc52 => ?_)
    refine JL_dropAt 1 ?_
    refine JL_norm _ [osl _ _ _ _ _ _] [_, _, _, _] rfl rfl rfl ?_
    refine JL_give 0 rfl ?_
    refine JL_norm _ [] [_, _, _, _, _] rfl rfl rfl ?_
    refine JL_callA' true (AsksA.cons (holdsA_of_mem (by repeat (first | with_reducible exact mm0 | refine mmS ?_))) AsksA.nil) (trim_con _ _ _ _ _ ⟨(by first | rfl | assumption | (simp only [lenS]; omega)), (dig_snoc hd (by omega)), (by rw [val_snoc, ho, hv, val_take_all (limbsOf x) k (by omega), val_take_all (limbsOf y) k (by omega), val_limbsOf, val_limbsOf, hxy])⟩ (by omega) (by omega)) rfl ca59 ⟨rfl, rfl⟩ ?_
    rintro _ _ ⟨ad53, cap53, rfl, hk53, hm53, rfl⟩
    refine JL_assign rfl ?_
    refine JL_done_up 54 [] [_, _, _, _, _, _] rfl rfl (by simp only [nrmF]; rfl) rfl rfl ?_
    refine JC_ret ?_
    refine JE_ret (vs := [_]) [vCells ad53 (u32s (limbsOf (n + m)))] Tryd.results53 ⟨rfl, rfl⟩ ?_ ?_
    · exact ⟨ad53, cap53, rfl, hk53, hm53, rfl⟩
    · exact (all_cons (by repeat (first | with_reducible exact mm0 | refine mmS ?_)) all_nil)

theorem minus_con (ad1 : Option Addr) (n1 c1 : Nat) (ad2 : Option Addr) (n2 c2 : Nat) (n m : Nat) (h1 : (limbsOf n).length = n1) (h2 : (limbsOf m).length = n2) (hb : n1 ≤ 1000000000) (hb2 : n2 ≤ 1000000000) (z : Nat) (hz : n - m = z) (hle : m ≤ n) :
    ConF Tryd.prog 54 [.slice ad1 n1 c1, .slice ad2 n2 c2] [vCells ad1 (u32s (limbsOf n)), vCells ad2 (u32s (limbsOf m))]
      (LS z) := by
  have _ := hb2
  subst hz
  have hlen := len_le_of_val_le hle
  refine ConF_of Tryd.func54 rfl 47 _ rfl rfl ?_
  intro w0
  refine JC_norm ⟨47, [], [_, _, _, _, _, _, _, _, _, _, _, _, _, _, _, _, _, _, _, _, _, _, _, _, _, _, _, _, _, _, _, _, _, _, _, _, _, _, _, _, _, _, _, _, _, _, _]⟩ [] [_, _] rfl rfl rfl ?_
  refine JC_seq ?_
  refine JC_region ?_
  refine JL_assign rfl ?_
  refine JL_done_up 47 [] [_, _] rfl rfl (by simp only [nrmF]; rfl) rfl rfl ?_
  refine JC_seq ?_
  refine JC_region ?_
  refine JL_move rfl ?_
  refine JL_len sl32 rfl ?_
  refine JL_make1 0 n1 sl32 rfl rfl rfl rfl (by omega) (by omega) (by omega) (fun g12 => ?_)
  rw [u32s_replicate]
  refine JL_assign rfl ?_
  refine JL_done_up 47 [osl _ _ _ _ _ _] [_, _] rfl rfl (by simp only [nrmF]; rfl) rfl rfl ?_
  refine JC_seq ?_
  refine JC_region ?_
  refine JL_assign rfl ?_
  refine JL_done_up 47 [osl _ _ _ _ _ _] [_, _] rfl rfl (by simp only [nrmF]; rfl) rfl rfl ?_
  refine JC_seq ?_
  refine JC_seq ?_
  refine JC_region ?_
  refine JL_move rfl ?_
  refine JL_len sl32 rfl ?_
  refine JL_move rfl ?_
  refine JL_done_up 47 [osl _ _ _ _ _ _] [_, _] rfl rfl (by simp only [nrmF]; rfl) rfl rfl ?_
  refine JC_block ?_
  refine JC_loopS ((Nat) × (List Nat) × (Nat) × (Option Addr) × (Nat)) (fun (k, out, c, ad, cap) => k ≤ n1 ∧ out.length = k ∧ Dig out ∧ c ≤ 1 ∧ val ((limbsOf n).take k) + 1000000000 ^ k * c = val ((limbsOf m).take k) + val out ∧ k ≤ cap ∧ cap ≤ 9223372036854775807) (fun (k, out, c, ad, cap) => n1 - k) (fun u (k, out, c, ad, cap) => [none, none, none, none, none, some (.slice ad k cap), some (.int .i64 (c : Nat)), some (u 7), some (u 8), some (u 9), none, none, none, none, none, some (.int .i64 (k : Nat)), some (u 16), some (u 17), some (u 18), some (u 19), some (u 20), some (u 21), some (u 22), some (u 23), some (u 24), some (u 25), some (u 26), some (u 27), some (u 28), some (u 29), some (u 30), some (u 31), some (u 32), some (u 33), some (u 34), some (u 35), some (u 36), some (u 37), some (u 38), some (u 39), some (u 40), some (u 41), some (u 42), some (u 43), some (u 44), none, none]) (fun (k, out, c, ad, cap) => [some (osl ad k cap 86 1 (u32s out))]) (fun (k, out, c, ad, cap) => []) (0, [], 0, some ⟨g12, 0, none⟩, n1) (by kernel_rfl) ?_ (by kernel_rfl) ?_ ?_
  · exact ⟨Nat.zero_le _, rfl, Dig.nil, by omega, by simp [val], by omega, by omega⟩
  · exact subset_nil
  intro u i hC
  obtain ⟨k, out, c, ad, cap⟩ := i
  obtain ⟨hk, ho, hd, hc, hv, hcap, hm⟩ := hC
  refine JC_norm ⟨47, [], [_, _, _, _, _, _, _, _, _, _, _, _, _, _, _, _, _, _, _, _, _, _, _, _, _, _, _, _, _, _, _, _, _, _, _, _, _, _, _, _, _, _, _, _, _, _, _]⟩ [osl _ _ _ _ _ _] [_, _] rfl rfl rfl ?_
  have hX := (dig_limbsOf n).getD k
  have hY := (dig_limbsOf m).getD k
  refine JC_seq ?_
  refine JC_region ?_
  refine JL_lss rfl rfl ?_
  refine JL_split (fun h16 => ?_) (fun h16 => ?_)
  · refine JL_done_up 47 [osl _ _ _ _ _ _] [_, _] rfl rfl (by simp only [nrmF]; rfl) rfl rfl ?_
    refine JC_seq ?_
    refine JC_true rfl ?_
    refine JC_skip ?_
    refine JE_then ?_
    refine JC_seq ?_
    refine JC_block ?_
    refine JC_seq ?_
    refine JC_region ?_
    refine JL_move rfl ?_
    refine JL_idx k sl32 rfl rfl rfl (by omega) (by first | exact Reads.view (by repeat (first | with_reducible exact mm0 | refine mmS ?_)) | (exact Reads.own 0 rfl)) (by first | (rw [u32s_length]; omega) | (rw [i64s_length]; omega)) ?_
    refine JL_loadE ty86 rfl (by first | exact Reads.view (by repeat (first | with_reducible exact mm0 | refine mmS ?_)) | (exact Reads.own 0 rfl)) (u32s_get (by omega)) ?_
    refine JL_assign rfl ?_
    refine JL_assign rfl ?_
    refine JL_done_up 47 [osl _ _ _ _ _ _] [_, _] rfl rfl (by simp only [nrmF]; rfl) rfl rfl ?_
    refine JC_seq ?_
    refine JC_region ?_
    refine JL_move rfl ?_
    refine JL_convInt us86 it2 rfl (IntWalk.i64_in _ (by omega)) ?_
    refine JL_move rfl ?_
    refine JL_sub_to rfl rfl (IntWalk.i64_in _ (by omega)) ?_
    refine JL_assign rfl ?_
    refine JL_done_up 47 [osl _ _ _ _ _ _] [_, _] rfl rfl (by simp only [nrmF]; rfl) rfl rfl ?_
    refine JC_seq ?_
    refine JC_seq ?_
    refine JC_region ?_
    refine JL_move rfl ?_
    refine JL_move rfl ?_
    refine JL_len sl32 rfl ?_
    refine JL_lss rfl rfl ?_
    refine JL_done_up 47 [osl _ _ _ _ _ _] [_, _] rfl rfl (by simp only [nrmF]; rfl) rfl rfl ?_
    refine JC_cutT ((Int)) (fun (t : Int) => t = ((limbsOf n).getD k 0 : Nat) - (c : Nat) - ((limbsOf m).getD k 0 : Nat)) (fun u (t : Int) => [none, none, none, none, none, none, none, none, none, some (.int .i64 t), none, none, none, none, none, none, none, none, none, none, none, none, none, none, none, none, none, none, some (u 28), some (u 29), some (u 30), some (u 31), some (u 32), some (u 33), some (u 34), none, none, none, none, none, none, none, none, none, none, none, none]) (fun (t : Int) => [none]) (fun (t : Int) => []) ?_ ?_
    · refine JC_cond rfl (fun hb => ?_) (fun hb => ?_)
      · have h27 := of_decide_eq_true hb
        refine JC_region ?_
        refine JL_move rfl ?_
        refine JL_move rfl ?_
        refine JL_move rfl ?_
        refine JL_idx k sl32 rfl rfl rfl (by omega) (by first | exact Reads.view (by repeat (first | with_reducible exact mm0 | refine mmS ?_)) | (exact Reads.own 0 rfl)) (by first | (rw [u32s_length]; omega) | (rw [i64s_length]; omega)) ?_
        refine JL_loadE ty86 rfl (by first | exact Reads.view (by repeat (first | with_reducible exact mm0 | refine mmS ?_)) | (exact Reads.own 0 rfl)) (u32s_get (by omega)) ?_
        refine JL_convInt us86 it2 rfl (IntWalk.i64_in _ (by omega)) ?_
        refine JL_sub_to rfl rfl (IntWalk.i64_in _ (by omega)) ?_
        refine JL_assign rfl ?_
        refine JL_nil_up 47 [osl _ _ _ _ _ _] [_, _] rfl rfl (by simp only [nrmF]; rfl) rfl rfl ?_
        refine JE_midS (((limbsOf n).getD k 0 : Nat) - (c : Nat) - ((limbsOf m).getD k 0 : Nat)) (by kernel_rfl) ?_ (by kernel_rfl) ?_
        · exact rfl
        · exact subset_app subset_nil ss0
      · have h27 := of_decide_eq_false hb
        refine JC_skip ?_
        refine JE_midS (((limbsOf n).getD k 0 : Nat) - (c : Nat)) (by kernel_rfl) ?_ (by kernel_rfl) ?_
        · show _ = _ - _; rw [getD_of_ge (limbsOf m) k (by omega)]; omega
        · exact subset_app subset_nil ss0
    intro u t ht
    refine JC_norm ⟨47, [], [_, _, _, _, _, _, _, _, _, _, _, _, _, _, _, _, _, _, _, _, _, _, _, _, _, _, _, _, _, _, _, _, _, _, _, _, _, _, _, _, _, _, _, _, _, _, _]⟩ [osl _ _ _ _ _ _] [_, _] rfl rfl rfl ?_
    refine JC_seq ?_
    refine JC_region ?_
    refine JL_assign rfl ?_
    refine JL_done_up 47 [osl _ _ _ _ _ _] [_, _] rfl rfl (by simp only [nrmF]; rfl) rfl rfl ?_
    refine JC_seq ?_
    refine JC_seq ?_
    refine JC_region ?_
    refine JL_move rfl ?_
    refine JL_lss rfl rfl ?_
    refine JL_done_up 47 [osl _ _ _ _ _ _] [_, _] rfl rfl (by simp only [nrmF]; rfl) rfl rfl ?_
    refine JC_cutT ((Int) × (Nat)) (fun (d, c2) => 0 ≤ d ∧ d < 1000000000 ∧ c2 ≤ 1 ∧ ((limbsOf n).getD k 0 : Int) + 1000000000 * c2 = (limbsOf m).getD k 0 + c + d) (fun u (d, c2) => [none, none, none, none, none, none, some (.int .i64 (c2 : Nat)), none, none, some (.int .i64 d), none, none, none, none, none, none, none, none, none, none, none, none, none, none, none, none, none, none, none, none, none, none, none, none, none, none, none, some (u 37), some (u 38), none, none, none, none, none, none, none, none]) (fun (d, c2) => [none]) (fun (d, c2) => []) ?_ ?_
    · refine JC_cond rfl (fun hb => ?_) (fun hb => ?_)
      · have h36 := of_decide_eq_true hb
        refine JC_seq ?_
        refine JC_region ?_
        refine JL_move rfl ?_
        refine JL_add_to rfl rfl (IntWalk.i64_in _ (by omega)) ?_
        refine JL_assign rfl ?_
        refine JL_done_up 47 [osl _ _ _ _ _ _] [_, _] rfl rfl (by simp only [nrmF]; rfl) rfl rfl ?_
        refine JC_region ?_
        refine JL_assign rfl ?_
        refine JL_nil_up 47 [osl _ _ _ _ _ _] [_, _] rfl rfl (by simp only [nrmF]; rfl) rfl rfl ?_
        refine JE_midS (t + 1000000000, 1) (by kernel_rfl) ?_ (by kernel_rfl) ?_
        · exact ⟨by omega, by omega, by omega, by omega⟩
        · exact subset_app subset_nil ss0
      · have h36 := of_decide_eq_false hb
        refine JC_skip ?_
        refine JE_midS (t, 0) (by kernel_rfl) ?_ (by kernel_rfl) ?_
        · exact ⟨by omega, by omega, by omega, by omega⟩
        · exact subset_app subset_nil ss0
    intro u i hC
    obtain ⟨d, c2⟩ := i
    obtain ⟨hd0, hd1, hc2, hdd⟩ := hC
    refine JC_norm ⟨47, [], [_, _, _, _, _, _, _, _, _, _, _, _, _, _, _, _, _, _, _, _, _, _, _, _, _, _, _, _, _, _, _, _, _, _, _, _, _, _, _, _, _, _, _, _, _, _, _]⟩ [osl _ _ _ _ _ _] [_, _] rfl rfl rfl ?_
    refine JC_region ?_
    refine JL_move rfl ?_
    refine JL_move rfl ?_
    refine JL_convInt us2 it86 rfl (IntWalk.u32_in _ (by omega)) ?_
    refine JL_build1 sl32 rfl rfl (fun g42 => ?_)
    refine JL_appendU (L := _) 0 1 d.toNat sl32 rfl rfl rfl rfl (by omega) (by omega) (by omega) (fun ad43 cap43 hc43 => ?_)
    refine JL_dropAt 1 ?_
    refine JL_norm _ [osl _ _ _ _ _ _] [_, _] rfl rfl rfl ?_
    refine JL_assign rfl ?_
    refine JL_nil_up 47 [osl _ _ _ _ _ _] [_, _] rfl rfl (by simp only [nrmF]; rfl) rfl rfl ?_
    refine JE_block_normal ?_
    refine JE_then ?_
    refine JC_region ?_
    refine JL_add_to rfl rfl (IntWalk.i64_in _ (by omega)) ?_
    refine JL_move rfl ?_
    refine JL_nil_up 47 [osl _ _ _ _ _ _] [_, _] rfl rfl (by simp only [nrmF]; rfl) rfl rfl ?_
    refine JE_nextS (k + 1, out ++ [d.toNat], c2, ad43, cap43) (by kernel_rfl) ?_ ?_ (by kernel_rfl) ?_
    · exact ⟨by omega, by rw [len_snoc]; omega, dig_snoc hd (by omega), by omega, minus_step ho hv (by omega), by omega, by omega⟩
    · first | omega | (dsimp only; omega)
    · exact subset_app subset_nil ss0
  · refine JL_done_up 47 [osl _ _ _ _ _ _] [_, _] rfl rfl (by simp only [nrmF]; rfl) rfl rfl ?_
    refine JC_seq ?_
    refine JC_false rfl ?_
    refine JC_exit ?_
    refine JE_then_exit ?_
    refine JE_nextS_exit ?_
    refine JE_block_exit ?_
    refine JE_then ?_
    refine JC_seq ?_
    refine JC_region ?_
    refine JL_move rfl ?_
    refine JL_give 0 rfl ?_
    refine JL_norm _ [] [_, _, _] rfl rfl rfl ?_
    refine JL_callA' true (AsksA.cons (holdsA_of_mem (by repeat (first | with_reducible exact mm0 | refine mmS ?_))) AsksA.nil) (trim_con _ _ _ _ _ ⟨(by first | rfl | assumption | (simp only [lenS]; omega)), hd, (by rw [minus_val (A := limbsOf n) (C := limbsOf m) ho hd (by omega) (by rw [val_limbsOf, val_limbsOf]; exact hle) (by omega) hv, val_limbsOf, val_limbsOf])⟩ (by omega) (by omega)) rfl ca59 ⟨rfl, rfl⟩ ?_
    rintro _ _ ⟨ad46, cap46, rfl, hk46, hm46, rfl⟩
    refine JL_assign rfl ?_
    refine JL_done_up 47 [] [_, _, _, _] rfl rfl (by simp only [nrmF]; rfl) rfl rfl ?_
    refine JC_ret ?_
    refine JE_ret (vs := [_]) [vCells ad46 (u32s (limbsOf (n - m)))] Tryd.results54 ⟨rfl, rfl⟩ ?_ ?_
    · exact ⟨ad46, cap46, rfl, hk46, hm46, rfl⟩
    · exact (all_cons (by repeat (first | with_reducible exact mm0 | refine mmS ?_)) all_nil)

end Go.Fw.K
