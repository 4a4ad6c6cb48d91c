/- Walks through functions of the given program: each meets its contract. (Printed by a program of this repo.) -/
import Derived.Test.YtgfldmhpindbpaaDoorW1
import Derived.Test.YtgfldmhpindbpaaDoorW2
import Derived.Test.YtgfldmhpindbpaaDoorW3
import Derived.Test.YtgfldmhpindbpaaDoorProg
namespace Go.Fw.W4
open Go Go.RowKit Go.Proofs Go.Nat9 Go.Fw
attribute [local irreducible] JC JL JE
theorem ca46 : callable Tryd.prog 46 = true := by kernel_rfl
theorem ca49 : callable Tryd.prog 49 = true := by kernel_rfl
theorem ca54 : callable Tryd.prog 54 = true := by kernel_rfl
theorem ca59 : callable Tryd.prog 59 = true := by kernel_rfl
theorem ca67 : callable Tryd.prog 67 = true := by kernel_rfl
theorem ca68 : callable Tryd.prog 68 = true := by kernel_rfl
theorem it78 : intTy Tryd.prog 78 = some .u64 := by kernel_rfl
theorem it86 : intTy Tryd.prog 86 = some .u32 := by kernel_rfl
theorem mixed : Tryd.prog.follows .mixedOrders = true := by kernel_rfl
theorem sl32 : slOf Tryd.prog 32 = some (86, 1, 4, [.int .u32 0]) := by kernel_rfl
theorem ty86 : tyOf Tryd.prog 86 = some (false, 1) := by kernel_rfl
theorem us78 : (Tryd.prog.underlying 78).isSome = true := by kernel_rfl
theorem us86 : (Tryd.prog.underlying 86).isSome = true := by kernel_rfl
end Go.Fw.W4
namespace Go.Fw.K
open Go Go.RowKit Go.Proofs Go.Nat9 Go.Fw Go.Fw.W4
attribute [local irreducible] JC JL JE

theorem clone_con (ad : Option Addr) (n cap : Nat) (L : List Nat) (hl : L.length = n) (hb : n ≤ 1000000000) :
    ConF Tryd.prog 68 [.slice ad n cap] [vCells ad (u32s L)]
      (LC L) := by
  subst hl
  refine ConF_of Tryd.func68 rfl 8 _ rfl rfl ?_
  intro w0
  refine JC_norm ⟨8, [], [_, _, _, _, _, _, _, _]⟩ [] [_] rfl rfl rfl ?_
  refine JC_seq ?_
  refine JC_region ?_
  refine JL_assign rfl ?_
  refine JL_done_up 8 [] [_] rfl rfl (by simp only [nrmF]; rfl) rfl rfl ?_
  refine JC_seq ?_
  refine JC_seq ?_
  refine JC_region ?_
  refine JL_move rfl ?_
  refine JL_eqlNil sl32 rfl rfl ?_
  refine JL_splitV (fun h4 => ?_) (fun h4 => ?_)
  · refine JL_fact (fun w s => nilL s List.mem_cons_self h4) (fun hL => ?_)
    refine JL_done_up 8 [] [_] rfl rfl (by simp only [nrmF]; rfl) rfl rfl ?_
    refine JC_true rfl ?_
    refine JC_seq ?_
    refine JC_region ?_
    refine JL_assign rfl ?_
    refine JL_done_up 8 [] [_] rfl rfl (by simp only [nrmF]; rfl) rfl rfl ?_
    refine JC_ret ?_
    refine JE_then_ret ?_
    refine JE_nilView ?_
    refine JE_ret (vs := [_]) [vCells none (u32s [])] Tryd.results68 ⟨rfl, rfl⟩ ?_ ?_
    · exact ⟨none, 0, by rw [hL]; rfl, by rw [hL]; exact Nat.le_refl _, by omega, by rw [hL]⟩
    · exact (all_cons (by repeat (first | with_reducible exact mm0 | refine mmS ?_)) all_nil)
  · refine JL_done_up 8 [] [_] rfl rfl (by simp only [nrmF]; rfl) rfl rfl ?_
    refine JC_false rfl ?_
    refine JC_skip ?_
    refine JE_then ?_
    refine JC_seq ?_
    refine JC_region ?_
    refine JL_build0 sl32 (fun g5 => ?_)
    refine JL_move rfl ?_
    refine JL_appendUV (L := []) (M := L) 0 sl32 rfl rfl rfl (by first | exact Reads.view (by repeat (first | with_reducible exact mm0 | refine mmS ?_)) | (exact Reads.own 0 rfl)) (by first | rfl | assumption | (simp only [lenS]; omega)) (by omega) (by omega) (fun ad7 cap7 hc7 => ?_)
    refine JL_assign rfl ?_
    refine JL_done_up 8 [osl _ _ _ _ _ _] [_] rfl rfl (by simp only [nrmF]; rfl) rfl rfl ?_
    refine JC_ret ?_
    refine JE_give 0 rfl ?_
    refine JE_norm _ [] [_, _] rfl rfl rfl ?_
    refine JE_ret (vs := [_]) [vCells ad7 (u32s ([] ++ L))] Tryd.results68 ⟨rfl, rfl⟩ ?_ ?_
    · exact ⟨ad7, cap7, by rw [Nat.zero_add]; rfl, by omega, by omega, rfl⟩
    · exact (all_cons (by repeat (first | with_reducible exact mm0 | refine mmS ?_)) all_nil)

set_option maxHeartbeats 1000000 in
set_option maxRecDepth 20000 in
theorem divide_con (ad1 : Option Addr) (n1 c1 : Nat) (ad2 : Option Addr) (n2 c2 : Nat) (n m : Nat) (h1 : (limbsOf n).length = n1) (h2 : (limbsOf m).length = n2) (hb : n1 ≤ 500000000) (hb2 : n2 ≤ 500000000) (hm0 : 0 < m) (hk1 : n1 ≤ c1) (hm1 : c1 ≤ 9223372036854775807) :
    ConA Tryd.prog 60 [.slice ad1 n1 c1, .slice ad2 n2 c2] [vCells ad1 (u32s (limbsOf n)), vCells ad2 (u32s (limbsOf m))]
      (LS2 (n / m) (n % m)) := by
  subst h1 h2
  refine ConA_of Tryd.func60 rfl 153 _ rfl rfl ?_
  intro w0
  refine JC_norm ⟨153, [], [_, _, _, _, _, _, _, _, _, _, _, _, _, _, _, _, _, _, _, _, _, _, _, _, _, _, _, _, _, _, _, _, _, _, _, _, _, _, _, _, _, _, _, _, _, _, _, _, _, _, _, _, _, _, _, _, _, _, _, _, _, _, _, _, _, _, _, _, _, _, _, _, _, _, _, _, _, _, _, _, _, _, _, _, _, _, _, _, _, _, _, _, _, _, _, _, _, _, _, _, _, _, _, _, _, _, _, _, _, _, _, _, _, _, _, _, _, _, _, _, _, _, _, _, _, _, _, _, _, _, _, _, _, _, _, _, _, _, _, _, _, _, _, _, _, _, _, _, _, _, _, _, _]⟩ [] [_, _] rfl rfl rfl ?_
  refine JC_seq ?_
  refine JC_region ?_
  refine JL_assign rfl ?_
  refine JL_assign rfl ?_
  refine JL_done_up 153 [] [_, _] rfl rfl (by simp only [nrmF]; rfl) rfl rfl ?_
  refine JC_seq ?_
  refine JC_seq ?_
  refine JC_region ?_
  refine JL_move rfl ?_
  refine JL_move rfl ?_
  refine JL_callF' (Asks.cons (holds_of_mem (by repeat (first | with_reducible exact mm0 | refine mmS ?_))) (Asks.cons (holds_of_mem (by repeat (first | with_reducible exact mm0 | refine mmS ?_))) Asks.nil)) (compare_con _ _ _ _ _ _ _ _ rfl rfl (by omega) (by omega)) rfl ca46 ⟨rfl, rfl, rfl⟩ ?_
  rintro _ _ ⟨rfl, rfl⟩
  refine JL_lss rfl rfl ?_
  refine JL_split (fun h22 => ?_) (fun h22 => ?_)
  · refine JL_done_up 153 [] [_, _] rfl rfl (by simp only [nrmF]; rfl) rfl rfl ?_
    refine JC_true rfl ?_
    refine JC_seq ?_
    refine JC_region ?_
    refine JL_move rfl ?_
    refine JL_assign rfl ?_
    refine JL_assign rfl ?_
    refine JL_done_up 153 [] [_, _] rfl rfl (by simp only [nrmF]; rfl) rfl rfl ?_
    refine JC_ret ?_
    refine JE_then_ret ?_
    have hlt : n < m := cmpN_neg.1 h22
    refine JE_nilView ?_
    refine JE_ret (vs := [_, _]) [vCells none (u32s []), vCells ad1 (u32s (limbsOf n))] Tryd.results60 ⟨rfl, rfl, rfl⟩ ?_ ?_
    · exact ⟨none, 0, ad1, c1, by rw [Nat.div_eq_of_lt hlt, Nat.mod_eq_of_lt hlt, limbsOf_zero]; rfl, by rw [Nat.div_eq_of_lt hlt, limbsOf_zero]; exact Nat.le_refl _, by omega, by rw [Nat.mod_eq_of_lt hlt]; exact hk1, hm1, by rw [Nat.div_eq_of_lt hlt, Nat.mod_eq_of_lt hlt, limbsOf_zero]⟩
    · exact (all_cons (by repeat (first | with_reducible exact mm0 | refine mmS ?_)) (all_cons (by repeat (first | with_reducible exact mm0 | refine mmS ?_)) all_nil))
  · refine JL_done_up 153 [] [_, _] rfl rfl (by simp only [nrmF]; rfl) rfl rfl ?_
    refine JC_false rfl ?_
    refine JC_skip ?_
    refine JE_then ?_
    refine JC_seq ?_
    refine JC_seq ?_
    refine JC_region ?_
    refine JL_move rfl ?_
    refine JL_len sl32 rfl ?_
    refine JL_eql rfl rfl ?_
    refine JL_split (fun h26 => ?_) (fun h26 => ?_)
    · refine JL_done_up 153 [] [_, _] rfl rfl (by simp only [nrmF]; rfl) rfl rfl ?_
      refine JC_true rfl ?_
      refine JC_seq ?_
      refine JC_region ?_
      refine JL_move rfl ?_
      refine JL_move rfl ?_
      refine JL_idx 0 sl32 rfl rfl rfl (by omega) (Reads.view (List.mem_cons_of_mem _ List.mem_cons_self)) (by first | (rw [u32s_length]; omega) | (rw [i64s_length]; omega)) ?_
      obtain ⟨hm9, hmL⟩ := limbsOf_single (n := m) (by omega)
      refine JL_loadE ty86 rfl (Reads.view (List.mem_cons_of_mem _ List.mem_cons_self)) (u32s_get (by omega)) ?_
      rw [show (limbsOf m).getD 0 0 = m from by rw [hmL]; rfl]
      refine JL_callF' (Asks.cons (holds_of_mem (by repeat (first | with_reducible exact mm0 | refine mmS ?_))) Asks.nil) (short_con _ _ _ _ n m DIn.of (by omega) (by omega) (by omega)) rfl ca67 ⟨rfl, rfl, rfl⟩ ?_
      rintro _ _ ⟨ad32, cap32, rfl, hk32, hm32, rfl⟩
      refine JL_move rfl ?_
      refine JL_extract rfl rfl ?_
      refine JL_extract rfl rfl ?_
      refine JL_assign rfl ?_
      refine JL_assign rfl ?_
      refine JL_done_up 153 [] [_, _, _] rfl rfl (by simp only [nrmF]; rfl) rfl rfl ?_
      refine JC_seq ?_
      refine JC_region ?_
      refine JL_move rfl ?_
      refine JL_move rfl ?_
      refine JL_build1 sl32 rfl rfl (fun g37 => ?_)
      refine JL_norm _ [osl _ _ _ _ _ (u32s ([n % m]))] [_, _, _] rfl rfl rfl ?_
      refine JL_give 0 rfl ?_
      refine JL_norm _ [] [_, _, _, _] rfl rfl rfl ?_
      refine JL_callA' true (AsksA.cons (holdsA_of_mem (by repeat (first | with_reducible exact mm0 | refine mmS ?_))) AsksA.nil) (trim_con _ 1 _ _ (n % m) (DIn.one (by have := Nat.mod_lt n hm0; omega)) (by omega) (by omega)) rfl ca59 ⟨rfl, rfl⟩ ?_
      rintro _ _ ⟨ad38, cap38, rfl, hk38, hm38, rfl⟩
      refine JL_assign rfl ?_
      refine JL_assign rfl ?_
      refine JL_done_up 153 [] [_, _, _, _, _] rfl rfl (by simp only [nrmF]; rfl) rfl rfl ?_
      refine JC_ret ?_
      refine JE_then_ret ?_
      refine JE_ret (vs := [_, _]) [vCells ad32 (u32s (limbsOf (n / m))), vCells ad38 (u32s (limbsOf (n % m)))] Tryd.results60 ⟨rfl, rfl, rfl⟩ ?_ ?_
      · exact ⟨ad32, cap32, ad38, cap38, rfl, hk32, hm32, hk38, hm38, rfl⟩
      · exact (all_cons (by repeat (first | with_reducible exact mm0 | refine mmS ?_)) (all_cons (by repeat (first | with_reducible exact mm0 | refine mmS ?_)) all_nil))
    · refine JL_done_up 153 [] [_, _] rfl rfl (by simp only [nrmF]; rfl) rfl rfl ?_
      refine JC_false rfl ?_
      refine JC_skip ?_
      refine JE_then ?_
      refine JC_seq ?_
      refine JC_region ?_
      refine JL_move rfl ?_
      refine JL_move rfl ?_
      refine JL_len sl32 rfl ?_
      refine JL_sub_to rfl rfl (IntWalk.i64_in _ (by omega)) ?_
      have hle : m ≤ n := by have := cmpN_neg (n := n) (m := m); omega
      have hmp := limbsOf_len_pos hm0
      have htop := limbsOf_top hm0
      have htop9 := (dig_limbsOf m).getD ((limbsOf m).length - 1)
      obtain ⟨tp, htp⟩ : ∃ tp, (limbsOf m).getD ((limbsOf m).length - 1) 0 = tp := ⟨_, rfl⟩
      rw [htp] at htop htop9
      refine JL_idx ((limbsOf m).length - 1) sl32 rfl rfl (by omega) (by omega) (Reads.view (List.mem_cons_of_mem _ List.mem_cons_self)) (by first | (rw [u32s_length]; omega) | (rw [i64s_length]; omega)) ?_
      refine JL_loadE ty86 rfl (Reads.view (List.mem_cons_of_mem _ List.mem_cons_self)) (u32s_get (by omega)) ?_
      rw [htp]
      refine JL_add_to rfl rfl (IntWalk.u32_in _ (by omega)) ?_
      rw [show (((tp : Nat) : Int) + 1 : Int) = ((tp + 1 : Nat) : Int) from rfl]
      obtain ⟨sc, hsc⟩ : ∃ sc, 1000000000 / (tp + 1) = sc := ⟨_, rfl⟩
      have hs0 : 0 < sc := by rw [← hsc]; exact (scale_pos (by omega)).1
      have hs9 : sc < 1000000000 := by rw [← hsc]; exact scale_dig htop
      refine JL_quo_to rfl rfl (by omega) (quo_nat_u32 1000000000 (tp + 1) (by decide)) ?_
      rw [hsc]
      refine JL_build1 sl32 rfl rfl (fun g47 => ?_)
      refine JL_norm _ [osl _ _ _ _ _ (u32s ([sc]))] [_, _] rfl rfl rfl ?_
      refine JL_assign rfl ?_
      refine JL_done_up 153 [osl _ _ _ _ _ _] [_, _] rfl rfl (by simp only [nrmF]; rfl) rfl rfl ?_
      refine JC_seq ?_
      refine JC_region ?_
      refine JL_move rfl ?_
      refine JL_move rfl ?_
      obtain ⟨N, hN⟩ : ∃ N, n * sc = N := ⟨_, rfl⟩
      obtain ⟨V, hV⟩ : ∃ V, m * sc = V := ⟨_, rfl⟩
      have hscl : (limbsOf sc).length ≤ 1 := limbsOf_len_of_lt (by omega)
      have hNl := len_limbsOf_mul n sc
      have hVl := len_limbsOf_mul m sc
      rw [hN] at hNl
      rw [hV] at hVl
      have hVN : (limbsOf V).length ≤ (limbsOf N).length := len_limbsOf_le (by rw [← hN, ← hV]; exact Nat.mul_le_mul_right _ hle)
      have hV0 : 0 < V := by rw [← hV]; exact Nat.mul_pos hm0 hs0
      have hVp := limbsOf_len_pos hV0
      refine JL_callF' (Asks.cons (by first | exact holds_of_mem (by repeat (first | with_reducible exact mm0 | refine mmS ?_)) | (exact holds_of_own 0 rfl)) (Asks.cons (by first | exact holds_of_mem (by repeat (first | with_reducible exact mm0 | refine mmS ?_)) | (exact holds_of_own 0 rfl)) Asks.nil)) (times_con _ _ _ _ _ _ _ _ _ _ N hN DIn.of (DIn.one hs9) (by omega) (by omega)) rfl ca49 ⟨rfl, rfl, rfl⟩ ?_
      rintro _ _ ⟨ad50, cap50, rfl, hk50, hm50, rfl⟩
      refine JL_move rfl ?_
      refine JL_move rfl ?_
      refine JL_callF' (Asks.cons (by first | exact holds_of_mem (by repeat (first | with_reducible exact mm0 | refine mmS ?_)) | (exact holds_of_own 0 rfl)) (Asks.cons (by first | exact holds_of_mem (by repeat (first | with_reducible exact mm0 | refine mmS ?_)) | (exact holds_of_own 0 rfl)) Asks.nil)) (times_con _ _ _ _ _ _ _ _ _ _ V hV DIn.of (DIn.one hs9) (by omega) (by omega)) rfl ca49 ⟨rfl, rfl, rfl⟩ ?_
      rintro _ _ ⟨ad53, cap53, rfl, hk53, hm53, rfl⟩
      refine JL_assign rfl ?_
      refine JL_assign rfl ?_
      refine JL_done_up 153 [osl _ _ _ _ _ _] [_, _, _, _] rfl rfl (by simp only [nrmF]; rfl) rfl rfl ?_
      refine JC_seq ?_
      refine JC_region ?_
      refine JL_move rfl ?_
      refine JL_len sl32 rfl ?_
      refine JL_move rfl ?_
      refine JL_len sl32 rfl ?_
      refine JL_sub_to rfl rfl (IntWalk.i64_in _ (by omega)) ?_
      refine JL_add_to rfl rfl (IntWalk.i64_in _ (by omega)) ?_
      refine JL_make1 ((limbsOf N).length - (limbsOf V).length + 1) ((limbsOf N).length - (limbsOf V).length + 1) sl32 rfl rfl (by omega) (by omega) (by omega) (by omega) (by omega) (fun g60 => ?_)
      rw [u32s_replicate]
      refine JL_assign rfl ?_
      refine JL_done_up 153 [osl _ _ _ _ _ _, osl _ _ _ _ _ _] [_, _, _, _] rfl rfl (by simp only [nrmF]; rfl) rfl rfl ?_
      refine JC_seq ?_
      refine JC_seq ?_
      refine JC_region ?_
      refine JL_move rfl ?_
      refine JL_len sl32 rfl ?_
      refine JL_move rfl ?_
      refine JL_len sl32 rfl ?_
      refine JL_sub_to rfl rfl (IntWalk.i64_in _ (by omega)) ?_
      rw [show ((((limbsOf N).length : Nat) : Int) - (((limbsOf V).length : Nat) : Int) : Int) = ((((limbsOf N).length - (limbsOf V).length + 1) : Nat) : Int) - 1 from by omega]
      refine JL_assign rfl ?_
      refine JL_done_up 153 [osl _ _ _ _ _ _, osl _ _ _ _ _ _] [_, _, _, _] rfl rfl (by simp only [nrmF]; rfl) rfl rfl ?_
      refine JC_block ?_
      refine JC_loopS ((Nat) × (Option Addr) × (Nat) × (Nat) × (List Nat) × (List Nat)) (fun (jj, ua, un, uc, U, q) => DivInv N V ((limbsOf N).length - (limbsOf V).length + 1) U q jj ∧ U.length = un ∧ jj ≤ ((limbsOf N).length - (limbsOf V).length + 1) ∧ un ≤ (limbsOf N).length ∧ un ≤ uc ∧ uc ≤ 9223372036854775807) (fun (jj, ua, un, uc, U, q) => jj) (fun u (jj, ua, un, uc, U, q) => [none, none, none, none, none, none, none, none, none, some (.slice ua un uc), none, none, some (.int .i64 ((jj : Nat) - 1)), some (u 13), some (u 14), some (u 15), some (u 16), none, none, none, none, none, none, none, none, none, none, none, none, none, none, none, none, none, none, none, none, none, none, none, none, none, none, none, none, none, none, none, none, none, none, none, none, none, none, none, none, none, none, none, none, none, none, none, none, none, some (u 66), some (u 67), some (u 68), some (u 69), some (u 70), some (u 71), some (u 72), some (u 73), some (u 74), some (u 75), some (u 76), some (u 77), some (u 78), some (u 79), some (u 80), some (u 81), some (u 82), some (u 83), some (u 84), some (u 85), some (u 86), some (u 87), some (u 88), some (u 89), some (u 90), some (u 91), some (u 92), some (u 93), some (u 94), some (u 95), some (u 96), some (u 97), some (u 98), some (u 99), some (u 100), some (u 101), some (u 102), some (u 103), some (u 104), some (u 105), some (u 106), some (u 107), some (u 108), some (u 109), some (u 110), some (u 111), some (u 112), some (u 113), some (u 114), some (u 115), some (u 116), some (u 117), some (u 118), some (u 119), some (u 120), some (u 121), some (u 122), some (u 123), some (u 124), some (u 125), some (u 126), some (u 127), some (u 128), some (u 129), some (u 130), some (u 131), some (u 132), some (u 133), some (u 134), some (u 135), some (u 136), some (u 137), some (u 138), some (u 139), some (u 140), none, none, none, none, none, none, none, none, none, none, none, none]) (fun (jj, ua, un, uc, U, q) => [none, some (osl (some ⟨g60, 0, none⟩) ((limbsOf N).length - (limbsOf V).length + 1) ((limbsOf N).length - (limbsOf V).length + 1) 86 1 (u32s q))]) (fun (jj, ua, un, uc, U, q) => [(true, vCells ua (u32s U))]) (((limbsOf N).length - (limbsOf V).length + 1), ad50, (limbsOf N).length, cap50, limbsOf N, List.replicate ((limbsOf N).length - (limbsOf V).length + 1) 0) (by kernel_rfl) ?_ (by kernel_rfl) ?_ ?_
      · exact ⟨DivInv.start (lv := (limbsOf V).length) (dig_limbsOf N) (val_limbsOf N).symm (by omega) (pow_len_le V hV0), rfl, by omega, by omega, by omega, by omega⟩
      · exact (subset_cons (by repeat (first | with_reducible exact mm0 | refine mmS ?_)) subset_nil)
      intro u i hC
      obtain ⟨jj, ua, un, uc, U, q⟩ := i
      obtain ⟨hI, hun, hjj, hul, huc, hucm⟩ := hC
      refine JC_norm ⟨153, [], [_, _, _, _, _, _, _, _, _, _, _, _, _, _, _, _, _, _, _, _, _, _, _, _, _, _, _, _, _, _, _, _, _, _, _, _, _, _, _, _, _, _, _, _, _, _, _, _, _, _, _, _, _, _, _, _, _, _, _, _, _, _, _, _, _, _, _, _, _, _, _, _, _, _, _, _, _, _, _, _, _, _, _, _, _, _, _, _, _, _, _, _, _, _, _, _, _, _, _, _, _, _, _, _, _, _, _, _, _, _, _, _, _, _, _, _, _, _, _, _, _, _, _, _, _, _, _, _, _, _, _, _, _, _, _, _, _, _, _, _, _, _, _, _, _, _, _, _, _, _, _, _, _]⟩ [osl _ _ _ _ _ _, osl _ _ _ _ _ _] [_, _, _, _, _] rfl rfl rfl ?_
      refine JC_seq ?_
      refine JC_seq ?_
      refine JC_region ?_
      refine JL_move rfl ?_
      refine JL_geq rfl rfl ?_
      refine JL_split (fun h67 => ?_) (fun h67 => ?_)
      · have hI1 : DivInv N V ((limbsOf N).length - (limbsOf V).length + 1) U q (jj - 1 + 1) := by rw [Nat.sub_add_cancel (by omega)]; exact hI
        obtain ⟨P, hP⟩ : ∃ P, val (U.drop (jj - 1)) = P := ⟨_, rfl⟩
        have hPV := hI1.part_lt
        rw [hP] at hPV
        have hPl := len_limbsOf_dig (hI.du.drop (jj - 1))
        rw [hP, List.length_drop] at hPl
        refine JL_done_up 153 [osl _ _ _ _ _ _, osl _ _ _ _ _ _] [_, _, _, _, _] rfl rfl (by simp only [nrmF]; rfl) rfl rfl ?_
        refine JC_true rfl ?_
        refine JC_skip ?_
        refine JE_then ?_
        refine JC_seq ?_
        refine JC_block ?_
        refine JC_seq ?_
        refine JC_region ?_
        refine JL_move rfl ?_
        refine JL_move rfl ?_
        refine JL_move rfl ?_
        refine JL_len sl32 rfl ?_
        refine JL_min rfl rfl ?_
        refine JL_slice (min (jj - 1) un) un uc sl32 rfl (.some rfl (by omega)) .none .none (.inl rfl) (by omega) (by omega) (by omega) ?_
        refine JL_viewSub (ad := ua) (L := U) uc (min (jj - 1) un) un List.mem_cons_self (by omega) ?_
        rw [← hun, List.take_length, u_drop_min, hun]
        refine JL_callF' (Asks.cons (by first | exact holds_of_mem (by repeat (first | with_reducible exact mm0 | refine mmS ?_)) | (exact holds_of_own 0 rfl) | (exact holds_of_own 1 rfl)) Asks.nil) (clone_con _ _ _ _ (by rw [List.length_drop]; omega) (by omega)) rfl ca68 ⟨rfl, rfl⟩ ?_
        rintro _ _ ⟨ad76, cap76, rfl, hk76, hm76, rfl⟩
        refine JL_callA' true (AsksA.cons (holdsA_of_mem (by repeat (first | with_reducible exact mm0 | refine mmS ?_))) AsksA.nil) (trim_con _ _ _ _ P ⟨rfl, hI.du.drop _, hP⟩ (by omega) (by omega)) rfl ca59 ⟨rfl, rfl⟩ ?_
        rintro _ _ ⟨ad77, cap77, rfl, hk77, hm77, rfl⟩
        refine JL_assign rfl ?_
        refine JL_done_up 153 [osl _ _ _ _ _ _, osl _ _ _ _ _ _] [_, _, _, _, _, _, _, _] rfl rfl (by simp only [nrmF]; rfl) rfl rfl ?_
        refine JC_seq ?_
        refine JC_seq ?_
        refine JC_region ?_
        refine JL_move rfl ?_
        refine JL_move rfl ?_
        refine JL_callF' (Asks.cons (by first | exact holds_of_mem (by repeat (first | with_reducible exact mm0 | refine mmS ?_)) | (exact holds_of_own 0 rfl) | (exact holds_of_own 1 rfl)) (Asks.cons (by first | exact holds_of_mem (by repeat (first | with_reducible exact mm0 | refine mmS ?_)) | (exact holds_of_own 0 rfl) | (exact holds_of_own 1 rfl)) Asks.nil)) (compare_con _ _ _ _ _ _ P V rfl rfl (by omega) (by omega)) rfl ca46 ⟨rfl, rfl, rfl⟩ ?_
        rintro _ _ ⟨rfl, rfl⟩
        refine JL_lss rfl rfl ?_
        refine JL_split (fun h81 => ?_) (fun h81 => ?_)
        · refine JL_done_up 153 [osl _ _ _ _ _ _, osl _ _ _ _ _ _] [_, _, _, _, _, _, _, _] rfl rfl (by simp only [nrmF]; rfl) rfl rfl ?_
          refine JC_true rfl ?_
          refine JC_exit ?_
          refine JE_then_exit ?_
          refine JE_block_exit ?_
          refine JE_then ?_
          refine JC_region ?_
          refine JL_move rfl ?_
          refine JL_sub_to rfl rfl (IntWalk.i64_in _ (by omega)) ?_
          rw [show ((jj : Int) - 1 - 1 : Int) = ((jj - 1 : Nat) : Int) - 1 from by omega]
          refine JL_assign rfl ?_
          refine JL_nil_up 153 [osl _ _ _ _ _ _, osl _ _ _ _ _ _] [_, _, _, _, _, _, _, _] rfl rfl (by simp only [nrmF]; rfl) rfl rfl ?_
          refine JE_nextS (jj - 1, ua, un, uc, U, q) (by kernel_rfl) ?_ ?_ (by kernel_rfl) ?_
          · exact ⟨hI1.skip (by omega) (by rw [hP]; exact cmpN_neg.1 h81), hun, by omega, hul, huc, hucm⟩
          · first | omega | (dsimp only; omega)
          · exact subset_app (subset_cons (by repeat (first | with_reducible exact mm0 | refine mmS ?_)) subset_nil) (ssS (ssS (ssS (ssS ss0))))
        · have hVP : V ≤ P := by have := cmpN_neg (n := P) (m := V); omega
          have hlVP := len_limbsOf_le hVP
          have hlP1 := part_len hPV
          have htP := (dig_limbsOf P).getD ((limbsOf P).length - 1)
          have htP2 := (dig_limbsOf P).getD ((limbsOf P).length - 2)
          refine JL_done_up 153 [osl _ _ _ _ _ _, osl _ _ _ _ _ _] [_, _, _, _, _, _, _, _] rfl rfl (by simp only [nrmF]; rfl) rfl rfl ?_
          refine JC_false rfl ?_
          refine JC_skip ?_
          refine JE_then ?_
          refine JC_seq ?_
          refine JC_region ?_
          refine JL_move rfl ?_
          refine JL_move rfl ?_
          refine JL_len sl32 rfl ?_
          refine JL_sub_to rfl rfl (IntWalk.i64_in _ (by omega)) ?_
          refine JL_idx ((limbsOf P).length - 1) sl32 rfl rfl (by omega) (by omega) (by first | exact Reads.view (by repeat (first | with_reducible exact mm0 | refine mmS ?_)) | (exact Reads.own 0 rfl) | (exact Reads.own 1 rfl)) (by first | (rw [u32s_length]; omega) | (rw [i64s_length]; omega)) ?_
          refine JL_loadE ty86 rfl (by first | exact Reads.view (by repeat (first | with_reducible exact mm0 | refine mmS ?_)) | (exact Reads.own 0 rfl) | (exact Reads.own 1 rfl)) (u32s_get (by omega)) ?_
          refine JL_convInt us86 it78 rfl (IntWalk.u64_in _ (by omega)) ?_
          refine JL_assign rfl ?_
          refine JL_done_up 153 [osl _ _ _ _ _ _, osl _ _ _ _ _ _] [_, _, _, _, _, _, _, _] rfl rfl (by simp only [nrmF]; rfl) rfl rfl ?_
          refine JC_seq ?_
          refine JC_seq ?_
          refine JC_region ?_
          refine JL_move rfl ?_
          refine JL_len sl32 rfl ?_
          refine JL_move rfl ?_
          refine JL_len sl32 rfl ?_
          refine JL_gtr rfl rfl ?_
          refine JL_done_up 153 [osl _ _ _ _ _ _, osl _ _ _ _ _ _] [_, _, _, _, _, _, _, _] rfl rfl (by simp only [nrmF]; rfl) rfl rfl ?_
          refine JC_cutT ((Nat)) (fun (top : Nat) => top = P / 1000000000 ^ ((limbsOf V).length - 1)) (fun u (top : Nat) => [none, none, none, none, none, none, none, none, none, none, none, none, none, none, some (.int .u64 (top : Nat)), none, none, none, none, none, none, none, none, none, none, none, none, none, none, none, none, none, none, none, none, none, none, none, none, none, none, none, none, none, none, none, none, none, none, none, none, none, none, none, none, none, none, none, none, none, none, none, none, none, none, none, none, none, none, none, none, none, none, none, none, none, none, none, none, none, none, none, none, none, none, none, none, none, none, none, none, none, none, none, some (u 94), some (u 95), some (u 96), some (u 97), some (u 98), some (u 99), some (u 100), some (u 101), some (u 102), some (u 103), none, none, none, none, none, none, none, none, none, none, none, none, none, none, none, none, none, none, none, none, none, none, none, none, none, none, none, none, none, none, none, none, none, none, none, none, none, none, none, none, none, none, none, none, none, none, none, none, none]) (fun (top : Nat) => [none, none]) (fun (top : Nat) => []) ?_ ?_
          · refine JC_cond rfl (fun hb => ?_) (fun hb => ?_)
            · have h93 := of_decide_eq_true hb
              refine JC_region ?_
              refine JL_move rfl ?_
              refine JL_mul_to rfl rfl (IntWalk.u64_in _ (by omega)) ?_
              refine JL_move rfl ?_
              refine JL_move rfl ?_
              refine JL_len sl32 rfl ?_
              refine JL_sub_to rfl rfl (IntWalk.i64_in _ (by omega)) ?_
              refine JL_idx ((limbsOf P).length - 2) sl32 rfl rfl (by omega) (by omega) (by first | exact Reads.view (by repeat (first | with_reducible exact mm0 | refine mmS ?_)) | (exact Reads.own 0 rfl) | (exact Reads.own 1 rfl)) (by first | (rw [u32s_length]; omega) | (rw [i64s_length]; omega)) ?_
              refine JL_loadE ty86 rfl (by first | exact Reads.view (by repeat (first | with_reducible exact mm0 | refine mmS ?_)) | (exact Reads.own 0 rfl) | (exact Reads.own 1 rfl)) (u32s_get (by omega)) ?_
              refine JL_convInt us86 it78 rfl (IntWalk.u64_in _ (by omega)) ?_
              refine JL_add_to rfl rfl (IntWalk.u64_in _ (by omega)) ?_
              refine JL_assign rfl ?_
              refine JL_nil_up 153 [osl _ _ _ _ _ _, osl _ _ _ _ _ _] [_, _, _, _, _, _, _, _] rfl rfl (by simp only [nrmF]; rfl) rfl rfl ?_
              refine JE_midS ((limbsOf P).getD ((limbsOf P).length - 1) 0 * 1000000000 + (limbsOf P).getD ((limbsOf P).length - 2) 0) (by kernel_rfl) ?_ (by kernel_rfl) ?_
              · exact top2' (by omega) (by omega) (by omega)
              · exact subset_app subset_nil ss0
            · have h93 := of_decide_eq_false hb
              refine JC_skip ?_
              refine JE_midS ((limbsOf P).getD ((limbsOf P).length - 1) 0) (by kernel_rfl) ?_ (by kernel_rfl) ?_
              · exact top1' (by omega) (by omega)
              · exact subset_app subset_nil ss0
          intro u top htt
          refine JC_norm ⟨153, [], [_, _, _, _, _, _, _, _, _, _, _, _, _, _, _, _, _, _, _, _, _, _, _, _, _, _, _, _, _, _, _, _, _, _, _, _, _, _, _, _, _, _, _, _, _, _, _, _, _, _, _, _, _, _, _, _, _, _, _, _, _, _, _, _, _, _, _, _, _, _, _, _, _, _, _, _, _, _, _, _, _, _, _, _, _, _, _, _, _, _, _, _, _, _, _, _, _, _, _, _, _, _, _, _, _, _, _, _, _, _, _, _, _, _, _, _, _, _, _, _, _, _, _, _, _, _, _, _, _, _, _, _, _, _, _, _, _, _, _, _, _, _, _, _, _, _, _, _, _, _, _, _, _]⟩ [osl _ _ _ _ _ _, osl _ _ _ _ _ _] [_, _, _, _, _, _, _, _] rfl rfl rfl ?_
          refine JC_seq ?_
          refine JC_region ?_
          refine JL_move rfl ?_
          refine JL_move rfl ?_
          refine JL_move rfl ?_
          refine JL_len sl32 rfl ?_
          refine JL_sub_to rfl rfl (IntWalk.i64_in _ (by omega)) ?_
          have htV := (dig_limbsOf V).getD ((limbsOf V).length - 1)
          have htV0 := limbsOf_top hV0
          have htV1 := top1 (dig_limbsOf V) (k := (limbsOf V).length - 1) (by omega)
          rw [val_limbsOf] at htV1
          obtain ⟨vt, hvt⟩ : ∃ vt, (limbsOf V).getD ((limbsOf V).length - 1) 0 = vt := ⟨_, rfl⟩
          rw [hvt] at htV htV0 htV1
          have hgg := guess_ge hV0 hPV htt htV1 htV0
          obtain ⟨gq, hgq⟩ : ∃ gq, top / vt = gq := ⟨_, rfl⟩
          rw [hgq] at hgg
          have htop64 : top < 18446744073709551616 := by rw [htt]; exact top_lt hV0 hPV
          refine JL_idx ((limbsOf V).length - 1) sl32 rfl rfl (by omega) (by omega) (by first | exact Reads.view (by repeat (first | with_reducible exact mm0 | refine mmS ?_)) | (exact Reads.own 0 rfl) | (exact Reads.own 1 rfl)) (by first | (rw [u32s_length]; omega) | (rw [i64s_length]; omega)) ?_
          refine JL_loadE ty86 rfl (by first | exact Reads.view (by repeat (first | with_reducible exact mm0 | refine mmS ?_)) | (exact Reads.own 0 rfl) | (exact Reads.own 1 rfl)) (u32s_get (by omega)) ?_
          rw [hvt]
          refine JL_convInt us86 it78 rfl (IntWalk.u64_in _ (by omega)) ?_
          refine JL_quo_to rfl rfl (by omega) (quo_nat_u64 top vt htop64) ?_
          rw [hgq]
          refine JL_min rfl rfl ?_
          rw [show (if (999999999 : Int) < ((gq : Nat) : Int) then (999999999 : Int) else ((gq : Nat) : Int)) = ((min gq 999999999 : Nat) : Int) from by split <;> omega]
          refine JL_assign rfl ?_
          refine JL_done_up 153 [osl _ _ _ _ _ _, osl _ _ _ _ _ _] [_, _, _, _, _, _, _, _] rfl rfl (by simp only [nrmF]; rfl) rfl rfl ?_
          refine JC_seq ?_
          refine JC_region ?_
          refine JL_move rfl ?_
          refine JL_move rfl ?_
          refine JL_convInt us78 it86 rfl (IntWalk.u32_in _ (by omega)) ?_
          refine JL_build1 sl32 rfl rfl (fun g117 => ?_)
          refine JL_norm _ [osl _ _ _ _ _ _, osl _ _ _ _ _ _, osl _ _ _ _ _ (u32s ([min gq 999999999]))] [_, _, _, _, _, _, _, _] rfl rfl rfl ?_
          refine JL_callF' (Asks.cons (by first | exact holds_of_mem (by repeat (first | with_reducible exact mm0 | refine mmS ?_)) | (exact holds_of_own 0 rfl) | (exact holds_of_own 1 rfl) | (exact holds_of_own 2 rfl)) (Asks.cons (by first | exact holds_of_mem (by repeat (first | with_reducible exact mm0 | refine mmS ?_)) | (exact holds_of_own 0 rfl) | (exact holds_of_own 1 rfl) | (exact holds_of_own 2 rfl)) Asks.nil)) (times_con _ _ _ _ _ _ _ _ _ _ _ rfl DIn.of (DIn.one (by omega)) (by omega) (by omega)) rfl ca49 ⟨rfl, rfl, rfl⟩ ?_
          rintro _ _ ⟨ad118, cap118, rfl, hk118, hm118, rfl⟩
          refine JL_dropAt 2 ?_
          refine JL_norm _ [osl _ _ _ _ _ _, osl _ _ _ _ _ _] [_, _, _, _, _, _, _, _, _] rfl rfl rfl ?_
          refine JL_assign rfl ?_
          refine JL_done_up 153 [osl _ _ _ _ _ _, osl _ _ _ _ _ _] [_, _, _, _, _, _, _, _, _] rfl rfl (by simp only [nrmF]; rfl) rfl rfl ?_
          refine JC_seq ?_
          refine JC_block ?_
          refine JC_loopS ((Nat) × (Option Addr) × (Nat)) (fun (gg, pa, pc) => P / V ≤ gg ∧ gg ≤ 999999999 ∧ (limbsOf (V * gg)).length ≤ pc ∧ pc ≤ 9223372036854775807) (fun (gg, pa, pc) => gg) (fun u (gg, pa, pc) => [none, none, none, none, none, none, none, none, none, none, none, none, none, none, none, some (.int .u64 (gg : Nat)), some (.slice pa (limbsOf (V * gg)).length pc), none, none, none, none, none, none, none, none, none, none, none, none, none, none, none, none, none, none, none, none, none, none, none, none, none, none, none, none, none, none, none, none, none, none, none, none, none, none, none, none, none, none, none, none, none, none, none, none, none, none, none, none, none, none, none, none, none, none, none, none, none, none, none, none, none, none, none, none, none, none, none, none, none, none, none, none, none, none, none, none, none, none, none, none, none, none, none, none, none, none, none, none, none, none, none, none, none, none, none, none, none, none, some (u 119), some (u 120), some (u 121), some (u 122), some (u 123), some (u 124), some (u 125), some (u 126), some (u 127), none, none, none, none, none, none, none, none, none, none, none, none, none, none, none, none, none, none, none, none, none, none, none, none, none]) (fun (gg, pa, pc) => [none, none]) (fun (gg, pa, pc) => [(true, vCells pa (u32s (limbsOf (V * gg))))]) (min gq 999999999, ad118, cap118) (by kernel_rfl) ?_ (by kernel_rfl) ?_ ?_
          · exact ⟨hgg, by omega, hk118, hm118⟩
          · exact (subset_cons (by repeat (first | with_reducible exact mm0 | refine mmS ?_)) subset_nil)
          intro u i hC
          obtain ⟨gg, pa, pc⟩ := i
          obtain ⟨hgg1, hgg9, hpk, hpm⟩ := hC
          refine JC_norm ⟨153, [], [_, _, _, _, _, _, _, _, _, _, _, _, _, _, _, _, _, _, _, _, _, _, _, _, _, _, _, _, _, _, _, _, _, _, _, _, _, _, _, _, _, _, _, _, _, _, _, _, _, _, _, _, _, _, _, _, _, _, _, _, _, _, _, _, _, _, _, _, _, _, _, _, _, _, _, _, _, _, _, _, _, _, _, _, _, _, _, _, _, _, _, _, _, _, _, _, _, _, _, _, _, _, _, _, _, _, _, _, _, _, _, _, _, _, _, _, _, _, _, _, _, _, _, _, _, _, _, _, _, _, _, _, _, _, _, _, _, _, _, _, _, _, _, _, _, _, _, _, _, _, _, _, _]⟩ [osl _ _ _ _ _ _, osl _ _ _ _ _ _] [_, _, _, _, _, _, _, _, _, _] rfl rfl rfl ?_
          have hggl : (limbsOf gg).length ≤ 1 := limbsOf_len_of_lt (by omega)
          have hpl := len_limbsOf_mul V gg
          refine JC_seq ?_
          refine JC_seq ?_
          refine JC_region ?_
          refine JL_move rfl ?_
          refine JL_move rfl ?_
          refine JL_callF' (Asks.cons (by first | exact holds_of_mem (by repeat (first | with_reducible exact mm0 | refine mmS ?_)) | (exact holds_of_own 0 rfl) | (exact holds_of_own 1 rfl)) (Asks.cons (by first | exact holds_of_mem (by repeat (first | with_reducible exact mm0 | refine mmS ?_)) | (exact holds_of_own 0 rfl) | (exact holds_of_own 1 rfl)) Asks.nil)) (compare_con _ _ _ _ _ _ (V * gg) P rfl rfl (by omega) (by omega)) rfl ca46 ⟨rfl, rfl, rfl⟩ ?_
          rintro _ _ ⟨rfl, rfl⟩
          refine JL_gtr rfl rfl ?_
          refine JL_split (fun h122 => ?_) (fun h122 => ?_)
          · have hlt : P < V * gg := cmpN_pos.1 (by omega)
            have hg0 : 0 < gg := Nat.pos_of_ne_zero (fun h0 => by subst h0; omega)
            refine JL_done_up 153 [osl _ _ _ _ _ _, osl _ _ _ _ _ _] [_, _, _, _, _, _, _, _, _, _] rfl rfl (by simp only [nrmF]; rfl) rfl rfl ?_
            refine JC_true rfl ?_
            refine JC_skip ?_
            refine JE_then ?_
            refine JC_block ?_
            refine JC_seq ?_
            refine JC_region ?_
            refine JL_move rfl ?_
            refine JL_sub_to rfl rfl (IntWalk.u64_in _ (by omega)) ?_
            rw [show (((gg : Nat) : Int) - 1 : Int) = ((gg - 1 : Nat) : Int) from by omega]
            refine JL_assign rfl ?_
            refine JL_done_up 153 [osl _ _ _ _ _ _, osl _ _ _ _ _ _] [_, _, _, _, _, _, _, _, _, _] rfl rfl (by simp only [nrmF]; rfl) rfl rfl ?_
            refine JC_region ?_
            refine JL_move rfl ?_
            refine JL_move rfl ?_
            refine JL_callF' (Asks.cons (by first | exact holds_of_mem (by repeat (first | with_reducible exact mm0 | refine mmS ?_)) | (exact holds_of_own 0 rfl) | (exact holds_of_own 1 rfl)) (Asks.cons (by first | exact holds_of_mem (by repeat (first | with_reducible exact mm0 | refine mmS ?_)) | (exact holds_of_own 0 rfl) | (exact holds_of_own 1 rfl)) Asks.nil)) (minus_con _ _ _ _ _ _ (V * gg) V rfl rfl (by omega) (by omega) (V * (gg - 1)) (by rw [Nat.mul_sub, Nat.mul_one]) (Nat.le_mul_of_pos_right _ hg0)) rfl ca54 ⟨rfl, rfl, rfl⟩ ?_
            rintro _ _ ⟨ad127, cap127, rfl, hk127, hm127, rfl⟩
            refine JL_assign rfl ?_
            refine JL_nil_up 153 [osl _ _ _ _ _ _, osl _ _ _ _ _ _] [_, _, _, _, _, _, _, _, _, _, _] rfl rfl (by simp only [nrmF]; rfl) rfl rfl ?_
            refine JE_block_normal ?_
            refine JE_nextS (gg - 1, ad127, cap127) (by kernel_rfl) ?_ ?_ (by kernel_rfl) ?_
            · have hdl : P / V < gg := by rw [Nat.div_lt_iff_lt_mul hV0, Nat.mul_comm]; exact hlt
              exact ⟨by omega, by omega, hk127, hm127⟩
            · first | omega | (dsimp only; omega)
            · exact subset_app (subset_cons (by repeat (first | with_reducible exact mm0 | refine mmS ?_)) subset_nil) (ssS (ssS ss0))
          · have hge : V * gg ≤ P := by have := cmpN_pos (n := V * gg) (m := P); omega
            obtain rfl : gg = P / V := Nat.le_antisymm ((Nat.le_div_iff_mul_le hV0).2 (by rw [Nat.mul_comm]; exact hge)) hgg1
            have hjU : jj - 1 < U.length := by have := limbs_pos (x := P); omega
            have hRV : P - V * (P / V) < V := by have := Nat.mod_lt P hV0; have := Nat.div_add_mod P V; omega
            have hRl := len_limbsOf_le (Nat.le_of_lt hRV)
            refine JL_done_up 153 [osl _ _ _ _ _ _, osl _ _ _ _ _ _] [_, _, _, _, _, _, _, _, _, _] rfl rfl (by simp only [nrmF]; rfl) rfl rfl ?_
            refine JC_false rfl ?_
            refine JC_exit ?_
            refine JE_then_exit ?_
            refine JE_nextS_exit ?_
            refine JE_block_exit ?_
            refine JE_then ?_
            refine JC_seq ?_
            refine JC_region ?_
            refine JL_move rfl ?_
            refine JL_move rfl ?_
            refine JL_move rfl ?_
            refine JL_convInt us78 it86 rfl (u32_nat _ (Nat.lt_of_le_of_lt hgg9 (by decide))) ?_
            have hlq := hI.lq
            refine JL_idx (jj - 1) sl32 rfl rfl (by omega) (by omega) (Reads.own 1 rfl) (by first | (rw [u32s_length]; omega) | (rw [i64s_length]; omega)) ?_
            refine JL_storeU 1 (P / V) ty86 rfl rfl rfl (by omega) (by omega) ?_
            refine JL_done_up 153 [osl _ _ _ _ _ _, osl _ _ _ _ _ _] [_, _, _, _, _, _, _, _, _, _] rfl rfl (by simp only [nrmF]; rfl) rfl rfl ?_
            refine JC_drawT mixed 7 [spV 133 [] _, spV 134 [] _, spV 135 [] _, spV 136 [0, 1, 2] _, spV 137 [] _, spV 138 [] _, spC 139 [4, 5] _] ⟨OblS_V (fun vals ex ψ => (by
                refine JL_normQ ⟨153, [(133, _), (134, _), (135, _), (136, _), (137, _), (138, _), (139, _)], _⟩ (_ :: _ :: _ :: _ :: _ :: _ :: _ :: _ :: _ :: _ :: ψ) rfl rfl ?_
                refine JL_move rfl ?_
                exact JL_nil (JE_stepV rfl ss0))), OblS_V (fun vals ex ψ => (by
                refine JL_normQ ⟨153, [(133, _), (134, _), (135, _), (136, _), (137, _), (138, _), (139, _)], _⟩ (_ :: _ :: _ :: _ :: _ :: _ :: _ :: _ :: _ :: _ :: ψ) rfl rfl ?_
                refine JL_move rfl ?_
                exact JL_nil (JE_stepV rfl ss0))), OblS_V (fun vals ex ψ => (by
                refine JL_normQ ⟨153, [(133, _), (134, _), (135, _), (136, _), (137, _), (138, _), (139, _)], _⟩ (_ :: _ :: _ :: _ :: _ :: _ :: _ :: _ :: _ :: _ :: ψ) rfl rfl ?_
                refine JL_move rfl ?_
                exact JL_nil (JE_stepV rfl ss0))), OblS_V (fun vals ex ψ => (by
                refine JL_normQ ⟨153, [(133, _), (134, _), (135, _), (136, _), (137, _), (138, _), (139, _)], _⟩ (_ :: _ :: _ :: _ :: _ :: _ :: _ :: _ :: _ :: _ :: ψ) rfl rfl ?_
                refine JL_slice _ (jj - 1) (jj - 1) sl32 rfl .none (.some rfl (by omega)) (.some rfl (by omega)) (.inr (by simp)) (by omega) (by omega) (by omega) ?_
                exact JL_nil (JE_stepV rfl ss0))), OblS_V (fun vals ex ψ => (by
                refine JL_normQ ⟨153, [(133, _), (134, _), (135, _), (136, _), (137, _), (138, _), (139, _)], _⟩ (_ :: _ :: _ :: _ :: _ :: _ :: _ :: _ :: _ :: _ :: ψ) rfl rfl ?_
                refine JL_move rfl ?_
                exact JL_nil (JE_stepV rfl ss0))), OblS_V (fun vals ex ψ => (by
                refine JL_normQ ⟨153, [(133, _), (134, _), (135, _), (136, _), (137, _), (138, _), (139, _)], _⟩ (_ :: _ :: _ :: _ :: _ :: _ :: _ :: _ :: _ :: _ :: ψ) rfl rfl ?_
                refine JL_move rfl ?_
                exact JL_nil (JE_stepV rfl ss0))), OblS_C (fun vals ex ψ => (by
                refine JL_normQ ⟨153, [(133, _), (134, _), (135, _), (136, _), (137, _), (138, _), (139, _)], _⟩ (_ :: _ :: _ :: _ :: _ :: _ :: _ :: _ :: _ :: _ :: ψ) rfl rfl ?_
                refine JL_callF' (Asks.cons (by first | exact holds_of_mem (by repeat (first | with_reducible exact mm0 | refine mmS ?_)) | (exact holds_of_own 0 rfl) | (exact holds_of_own 1 rfl)) (Asks.cons (by first | exact holds_of_mem (by repeat (first | with_reducible exact mm0 | refine mmS ?_)) | (exact holds_of_own 0 rfl) | (exact holds_of_own 1 rfl)) Asks.nil)) (minus_con _ _ _ _ _ _ P (V * (P / V)) rfl rfl (by omega) (by omega) _ rfl hge) rfl ca54 ⟨rfl, rfl, rfl⟩ ?_
                exact fun v φo hP => JL_nil (JE_stepC φo rfl hP (fun p hp => mapB_l hp) (fun p hp => mapB_r (ss0 p hp))))), trivial⟩ (by kernel_rfl) (fun vals bs => ?_)
            refine JL_normL [_, _] ⟨153, [(133, _), (134, _), (135, _), (136, _), (137, _), (138, _), (139, _)], _⟩ [osl _ _ _ _ _ _, osl _ _ _ _ _ _] [_, _, _, _, _, _, _, _, _, _, _] rfl rfl rfl rfl ?_
            generalize vals (0 + 1 + 1 + 1 + 1 + 1 + 1) = x139
            refine JL_usePost mm0 (fun φo hP => ?_)
            obtain ⟨ad139, cap139, rfl, hk139, hm139, rfl⟩ := hP
            refine JL_norm _ [osl _ _ _ _ _ _, osl _ _ _ _ _ _] [_, _, _, _, _, _, _, _, _, _, _, _] rfl rfl rfl ?_
            refine JL_viewSub (f := true) (ad := ua) (L := U) (jj - 1) 0 (jj - 1) (by repeat (first | with_reducible exact mm0 | refine mmS ?_)) (Nat.le_refl _) ?_
            rw [List.drop_zero]
            refine JL_appendVU List.mem_cons_self (by first | exact Reads.view (by repeat (first | with_reducible exact mm0 | refine mmS ?_)) | (exact Reads.own 0 rfl) | (exact Reads.own 1 rfl)) sl32 rfl rfl (by rw [List.length_take]; omega) rfl rfl (by omega) (by omega) (fun ad140 cap140 hc140 => ?_)
            refine JL_assign rfl ?_
            refine JL_nil_up 153 [osl _ _ _ _ _ _, osl _ _ _ _ _ _] [_, _, _, _, _, _, _, _, _, _, _, _, _, _] rfl rfl (by simp only [nrmF]; rfl) rfl rfl ?_
            refine JE_block_normal ?_
            refine JE_then ?_
            refine JC_region ?_
            refine JL_move rfl ?_
            refine JL_sub_to rfl rfl (IntWalk.i64_in _ (by omega)) ?_
            rw [show ((jj : Int) - 1 - 1 : Int) = ((jj - 1 : Nat) : Int) - 1 from by omega]
            refine JL_assign rfl ?_
            refine JL_nil_up 153 [osl _ _ _ _ _ _, osl _ _ _ _ _ _] [_, _, _, _, _, _, _, _, _, _, _, _, _, _] rfl rfl (by simp only [nrmF]; rfl) rfl rfl ?_
            refine JE_nextS (jj - 1, ad140, jj - 1 - 0 + (limbsOf (P - V * (P / V))).length, cap140, U.take (jj - 1) ++ limbsOf (P - V * (P / V)), q.set (jj - 1) (P / V)) (by kernel_rfl) ?_ ?_ (by kernel_rfl) ?_
            · exact ⟨by have h := hI1.put (by omega) (by omega) rfl hV0; rw [hP] at h; exact h, by rw [List.length_append, List.length_take]; omega, by omega, by omega, by omega, by omega⟩
            · first | omega | (dsimp only; omega)
            · exact subset_app (subset_cons (by repeat (first | with_reducible exact mm0 | refine mmS ?_)) subset_nil) (ssS (ssS (ssS (ssS (ssS (ssS (ssS (ssS (ssS (ssS ss0))))))))))
      · obtain rfl : jj = 0 := by omega
        refine JL_done_up 153 [osl _ _ _ _ _ _, osl _ _ _ _ _ _] [_, _, _, _, _] rfl rfl (by simp only [nrmF]; rfl) rfl rfl ?_
        refine JC_false rfl ?_
        refine JC_exit ?_
        refine JE_then_exit ?_
        refine JE_nextS_exit ?_
        refine JE_block_exit ?_
        refine JE_then ?_
        refine JC_seq ?_
        refine JC_drawT mixed 10 [spV 142 [] _, spC 143 [0] _, spV 144 [] _, spV 145 [2] _, spV 146 [3] _, spC 147 [1, 4] _, spC 141 [5] _, spC 148 [6] (LS (n % m)), spC 149 [6] (fun v φo => v = .int .u32 ((val U % sc : Nat) : Int) ∧ φo = []), spC 17 [7] _] ⟨OblS_V (fun vals ex ψ => (by
            refine JL_normQ ⟨153, [(142, _), (143, _), (144, _), (145, _), (146, _), (147, _), (141, _), (148, _), (149, _), (17, _)], _⟩ (_ :: _ :: _ :: _ :: _ :: ψ) rfl rfl ?_
            refine JL_move rfl ?_
            exact JL_nil (JE_stepV rfl ss0))), OblS_C (fun vals ex ψ => (by
            refine JL_normQ ⟨153, [(142, _), (143, _), (144, _), (145, _), (146, _), (147, _), (141, _), (148, _), (149, _), (17, _)], _⟩ (_ :: _ :: _ :: _ :: _ :: ψ) rfl rfl ?_
            refine JL_callA' true (AsksA.cons (holdsA_of_mem (by repeat (first | with_reducible exact mm0 | refine mmS ?_))) AsksA.nil) (trim_con _ _ _ _ (val U) ⟨hun, hI.du, rfl⟩ (by omega) (by omega)) rfl ca59 ⟨rfl, rfl⟩ ?_
            exact fun v φo hP => JL_nil (JE_stepC φo rfl hP (fun p hp => mapB_l hp) (fun p hp => mapB_r (ss0 p hp))))), OblS_V (fun vals ex ψ => (by
            refine JL_normQ ⟨153, [(142, _), (143, _), (144, _), (145, _), (146, _), (147, _), (141, _), (148, _), (149, _), (17, _)], _⟩ (_ :: _ :: _ :: _ :: _ :: ψ) rfl rfl ?_
            refine JL_move rfl ?_
            exact JL_nil (JE_stepV rfl ss0))), OblS_V (fun vals ex ψ => (by
            refine JL_normQ ⟨153, [(142, _), (143, _), (144, _), (145, _), (146, _), (147, _), (141, _), (148, _), (149, _), (17, _)], _⟩ (_ :: _ :: _ :: _ :: _ :: ψ) rfl rfl ?_
            refine JL_idx 0 sl32 rfl rfl rfl (by omega) (Reads.own 0 rfl) (by exact Nat.one_pos) ?_
            exact JL_nil (JE_stepV rfl ss0))), OblS_V (fun vals ex ψ => (by
            refine JL_normQ ⟨153, [(142, _), (143, _), (144, _), (145, _), (146, _), (147, _), (141, _), (148, _), (149, _), (17, _)], _⟩ (_ :: _ :: _ :: _ :: _ :: ψ) rfl rfl ?_
            refine JL_loadE ty86 rfl (Reads.own 0 rfl) rfl ?_
            exact JL_nil (JE_stepV rfl ss0))), OblS_C (fun vals ex ψ => (by
            refine JL_normQ ⟨153, [(142, _), (143, _), (144, _), (145, _), (146, _), (147, _), (141, _), (148, _), (149, _), (17, _)], _⟩ (_ :: _ :: _ :: _ :: _ :: _ :: ψ) rfl rfl ?_
            generalize vals 1 = x143
            refine JL_usePost mm0 (fun φo hP => ?_)
            obtain ⟨ad143, cap143, rfl, hk143, hm143, rfl⟩ := hP
            refine JL_norm _ _ (_ :: _ :: _ :: _ :: _ :: _ :: _ :: ψ) rfl rfl rfl ?_
            refine JL_callF' (Asks.cons (by first | exact holds_of_mem (by repeat (first | with_reducible exact mm0 | refine mmS ?_)) | (exact holds_of_own 0 rfl) | (exact holds_of_own 1 rfl)) Asks.nil) (short_con _ _ _ _ (val U) sc DIn.of hs0 (by omega) (by have := len_limbsOf_dig hI.du; omega)) rfl ca67 ⟨rfl, rfl, rfl⟩ ?_
            exact fun v φo hP => JL_nil (JE_stepC φo rfl hP (fun p hp => mapB_l hp) (fun p hp => mapB_r ((ssS ss0) p hp))))), OblS_C (fun vals ex ψ => (by
            refine JL_normQ ⟨153, [(142, _), (143, _), (144, _), (145, _), (146, _), (147, _), (141, _), (148, _), (149, _), (17, _)], _⟩ (_ :: _ :: _ :: _ :: _ :: _ :: ψ) rfl rfl ?_
            generalize vals 5 = x147
            refine JL_usePost mm0 (fun φo hP => ?_)
            refine JL_move rfl ?_
            exact JL_nil (JE_stepC φo rfl hP (fun p hp => List.mem_append_left _ (List.mem_map.2 ⟨p, hp, rfl⟩)) (fun p hp => List.mem_append_right _ hp)))), OblS_C (fun vals ex ψ => (by
            refine JL_normQ ⟨153, [(142, _), (143, _), (144, _), (145, _), (146, _), (147, _), (141, _), (148, _), (149, _), (17, _)], _⟩ (_ :: _ :: _ :: _ :: _ :: _ :: ψ) rfl rfl ?_
            generalize vals 6 = x141
            refine JL_usePost mm0 (fun φo hP => ?_)
            obtain ⟨ad141, cap141, rfl, hk141, hm141, rfl⟩ := hP
            refine JL_norm _ _ (_ :: _ :: _ :: _ :: _ :: _ :: _ :: ψ) rfl rfl rfl ?_
            have hrem : val U / sc = n % m := by rw [hI.done.2, ← hN, ← hV, mul_mod_scale hs0]
            rw [hrem] at hk141
            rw [hrem]
            refine JL_extract rfl rfl ?_
            exact JL_nil (JE_stepC [vCells ad141 (u32s (limbsOf (n % m)))] rfl ⟨ad141, cap141, rfl, hk141, hm141, rfl⟩ (all_cons (by repeat (first | with_reducible exact mm0 | refine mmS ?_)) all_nil) (ssS ss0)))), OblS_C (fun vals ex ψ => (by
            refine JL_normQ ⟨153, [(142, _), (143, _), (144, _), (145, _), (146, _), (147, _), (141, _), (148, _), (149, _), (17, _)], _⟩ (_ :: _ :: _ :: _ :: _ :: _ :: ψ) rfl rfl ?_
            generalize vals 6 = x141
            refine JL_usePost mm0 (fun φo hP => ?_)
            obtain ⟨ad141, cap141, rfl, hk141, hm141, rfl⟩ := hP
            refine JL_norm _ _ (_ :: _ :: _ :: _ :: _ :: _ :: _ :: ψ) rfl rfl rfl ?_
            refine JL_extract rfl rfl ?_
            exact JL_nil (JE_stepC [] rfl ⟨rfl, rfl⟩ all_nil (ssS ss0)))), OblS_C (fun vals ex ψ => (by
            refine JL_normQ ⟨153, [(142, _), (143, _), (144, _), (145, _), (146, _), (147, _), (141, _), (148, _), (149, _), (17, _)], _⟩ (_ :: _ :: _ :: _ :: _ :: _ :: ψ) rfl rfl ?_
            generalize vals 7 = x148
            refine JL_usePost mm0 (fun φo hP => ?_)
            refine JL_assign rfl ?_
            exact JL_nil (JE_stepC φo rfl hP (fun p hp => List.mem_append_left _ (List.mem_map.2 ⟨p, hp, rfl⟩)) (fun p hp => List.mem_append_right _ hp)))), trivial⟩ (by kernel_rfl) (fun vals bs => ?_)
        refine JL_normL [_] ⟨153, [(142, _), (143, _), (144, _), (145, _), (146, _), (147, _), (141, _), (148, _), (149, _), (17, _)], _⟩ [osl _ _ _ _ _ _, osl _ _ _ _ _ _] [_, _, _, _, _, _, _, _, _, _, _] rfl rfl rfl rfl ?_
        generalize vals (0 + 1) = x143
        generalize vals (0 + 1 + 1 + 1 + 1 + 1) = x147
        generalize vals (0 + 1 + 1 + 1 + 1 + 1 + 1) = x141
        generalize vals (0 + 1 + 1 + 1 + 1 + 1 + 1 + 1) = x148
        generalize vals (0 + 1 + 1 + 1 + 1 + 1 + 1 + 1 + 1) = x149
        generalize vals (0 + 1 + 1 + 1 + 1 + 1 + 1 + 1 + 1 + 1) = x17
        refine JL_usePost (mmS (mmS (mmS (mmS mm0)))) (fun φo hP => ?_)
        obtain ⟨rfl, rfl⟩ := hP
        refine JL_norm _ [osl _ _ _ _ _ _, osl _ _ _ _ _ _] [_, _, _, _, _, _, _, _, _, _, _] rfl rfl rfl ?_
        refine JL_usePost (mmS (mmS (mmS (mmS (mmS mm0))))) (fun φo hP => ?_)
        obtain ⟨ad17, cap17, rfl, hk17, hm17, rfl⟩ := hP
        refine JL_norm _ [osl _ _ _ _ _ _, osl _ _ _ _ _ _] [_, _, _, _, _, _, _, _, _, _, _, _] rfl rfl rfl ?_
        refine JL_assign rfl ?_
        refine JL_done_up 153 [osl _ _ _ _ _ _, osl _ _ _ _ _ _] [_, _, _, _, _, _, _, _, _, _, _, _] rfl rfl (by simp only [nrmF]; rfl) rfl rfl ?_
        refine JC_seq ?_
        refine JC_region ?_
        refine JL_move rfl ?_
        refine JL_give 1 rfl ?_
        refine JL_norm _ [osl _ _ _ _ _ _] [_, _, _, _, _, _, _, _, _, _, _, _, _] rfl rfl rfl ?_
        refine JL_callA' true (AsksA.cons (holdsA_of_mem (by repeat (first | with_reducible exact mm0 | refine mmS ?_))) AsksA.nil) (trim_con _ _ _ _ (n / m) ⟨hI.lq, hI.dq, by rw [hI.done.1, ← hN, ← hV, mul_div_scale hs0]⟩ (by omega) (by omega)) rfl ca59 ⟨rfl, rfl⟩ ?_
        rintro _ _ ⟨ad151, cap151, rfl, hk151, hm151, rfl⟩
        refine JL_move rfl ?_
        refine JL_assign rfl ?_
        refine JL_assign rfl ?_
        refine JL_done_up 153 [osl _ _ _ _ _ _] [_, _, _, _, _, _, _, _, _, _, _, _, _, _] rfl rfl (by simp only [nrmF]; rfl) rfl rfl ?_
        refine JC_ret ?_
        refine JE_ret (vs := [_, _]) [vCells ad151 (u32s (limbsOf (n / m))), vCells ad17 (u32s (limbsOf (n % m)))] Tryd.results60 ⟨rfl, rfl, rfl⟩ ?_ ?_
        · exact ⟨ad151, cap151, ad17, cap17, rfl, hk151, hm151, hk17, hm17, rfl⟩
        · exact (all_cons (by repeat (first | with_reducible exact mm0 | refine mmS ?_)) (all_cons (by repeat (first | with_reducible exact mm0 | refine mmS ?_)) all_nil))

end Go.Fw.K
