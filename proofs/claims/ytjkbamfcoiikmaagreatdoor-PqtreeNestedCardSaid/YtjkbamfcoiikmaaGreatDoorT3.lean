/- Walks through functions of the given program: each meets its contract. (Printed by a program of this repo.) -/
import Derived.Test.YtjkbamfcoiikmaaGreatDoorMF
import Derived.Test.YtjkbamfcoiikmaaGreatDoorPqX
import Derived.Test.YtjkbamfcoiikmaaGreatDoorProg
namespace Go.Fw.T3
open Go Go.RowKit Go.Proofs Go.Nat9 Go.Fw
attribute [local irreducible] JC JL JE
theorem ca10 : callable Tryz.prog 10 = true := by kernel_rfl
theorem ca12 : callable Tryz.prog 12 = true := by kernel_rfl
theorem ca16 : callable Tryz.prog 16 = true := by kernel_rfl
theorem ca18 : callable Tryz.prog 18 = true := by kernel_rfl
theorem ca20 : callable Tryz.prog 20 = true := by kernel_rfl
theorem ca22 : callable Tryz.prog 22 = true := by kernel_rfl
theorem ca23 : callable Tryz.prog 23 = true := by kernel_rfl
theorem ca8 : callable Tryz.prog 8 = true := by kernel_rfl
theorem it3 : intTy Tryz.prog 3 = some .i64 := by kernel_rfl
theorem pt25 : Tryz.prog.underlying 25 = some (.pointer (Tryz.prog.pointee 25)) := by kernel_rfl
theorem sl32 : slOf Tryz.prog 32 = some (3, 1, 8, [.int .i64 0]) := by kernel_rfl
theorem us5 : (Tryz.prog.underlying 5).isSome = true := by kernel_rfl
end Go.Fw.T3
namespace Go.Fw.K
open Go Go.RowKit Go.Proofs Go.Nat9 Go.Fw Go.Fw.T3
attribute [local irreducible] JC JL JE

open Go.Fw.Pq
set_option maxHeartbeats 4000000 in
theorem pqtreeNested_conA {s : Nat} (hs : s < 256) :
    ConA Tryz.prog 4 [.int .u8 ((s : Nat) : Int)] []
      (fun v φo => v = .bool true ∧ φo = []) := by
  refine ConA_of Tryz.func4 rfl 70 _ rfl rfl ?_; intro w0; refine JC_norm ⟨70, [], [_, _, _, _, _, _, _, _, _, _, _, _, _, _, _, _, _, _, _, _, _, _, _, _, _, _, _, _, _, _, _, _, _, _, _, _, _, _, _, _, _, _, _, _, _, _, _, _, _, _, _, _, _, _, _, _, _, _, _, _, _, _, _, _, _, _, _, _, _, _]⟩ [] [] rfl rfl rfl ?_; refine JC_sr ?_; refine JL_assign rfl ?_; refine JL_du 70 [] [] ?_; refine JC_seq ?_; refine JC_sr ?_; refine JL_callF' Asks.nil (awake_con) rfl ca8 rfl ?_; rintro _ _ ⟨rfl, rfl⟩; refine JL_not rfl ?_; rw [Bool.not_true]; refine JL_du 70 [] [] ?_; refine JC_false rfl ?_; refine JC_skip ?_; refine JE_then ?_; refine JC_seq ?_; obtain ⟨k, hk⟩ : ∃ k : Nat, k = 1 + s % 16 := ⟨_, rfl⟩
  have hk0 : 0 < k := by omega
  have hk16 : k ≤ 16 := by omega
  refine JC_region ?_; refine JL_m ?_; refine JL_convInt us5 it3 rfl (IntWalk.i64_in _ (by omega)) ?_; refine JL_rem_to rfl rfl (by omega) (IntWalk.rem_in _ _ (by omega)) ?_; rw [show (((s : Nat) : Int) % 16 : Int) = ((s % 16 : Nat) : Int) from rfl]; refine JL_add_to rfl rfl (IntWalk.i64_in _ (by omega)) ?_; rw [show (1 + ((s % 16 : Nat) : Int) : Int) = ((k : Nat) : Int) from by omega]; refine JL_assign rfl ?_; refine JL_du 70 [] [] ?_; refine JC_sr ?_; refine JL_m ?_; refine JL_callO0 AsksO.nil (new_con hk0 hk16) rfl ca10 ⟨rfl, rfl⟩ ?_; rintro _ _ _ ⟨b19, a19, rfl, rfl, rfl, hf19, hn19⟩; refine JL_norm _ [box _ _ [_, _, _], osl _ _ _ _ _ _] [_, _] rfl rfl rfl ?_; refine JL_m ?_; refine JL_extract (v := .pointer (some ⟨b19, 0, none⟩)) rfl rfl ?_; refine JL_extract (v := .int .i64 0) rfl rfl ?_; refine JL_assign rfl ?_; refine JL_assign rfl ?_; refine JL_du 70 [box _ _ [_, _, _], osl _ _ _ _ _ _] [_, _] ?_; refine JC_seq ?_; refine JC_sr ?_; refine JL_m ?_; refine JL_neq rfl rfl ?_; refine JL_split (fun h23 => ?_) (fun h23 => ?_)
  · exact absurd rfl h23
  · refine JL_m ?_; refine JL_gy ?_; refine JL_m ?_; refine JL_gy ?_; refine JL_eqlPtr pt25 rfl rfl ?_; refine JL_splitV (fun h26 => ?_) (fun h26 => ?_)
    · exact absurd h26 Bool.false_ne_true
    · refine JL_pick_f rfl rfl ?_; refine JL_du 70 [box _ _ [_, _, _], osl _ _ _ _ _ _] [_, _] ?_; refine JC_false rfl ?_; refine JC_skip ?_; refine JE_then ?_; refine JC_sr ?_; refine JL_assign rfl ?_; refine JL_assign rfl ?_; refine JL_du 70 [box _ _ [_, _, _], osl _ _ _ _ _ _] [_, _] ?_; refine JC_seq ?_; refine JC_sr ?_; refine JL_assign rfl ?_; refine JL_du 70 [box _ _ [_, _, _], osl _ _ _ _ _ _] [_, _] ?_; refine JC_block ?_; refine JC_addNil 3 1 ?_; refine JC_norm ⟨70, [], [_, _, _, _, _, _, _, _, _, _, _, _, _, _, _, _, _, _, _, _, _, _, _, _, _, _, _, _, _, _, _, _, _, _, _, _, _, _, _, _, _, _, _, _, _, _, _, _, _, _, _, _, _, _, _, _, _, _, _, _, _, _, _, _, _, _, _, _, _, _]⟩ [box _ _ [_, _, _], osl _ _ _ _ _ _, osl _ _ _ _ _ _] [_, _] rfl rfl rfl ?_; refine JC_addNil 3 1 ?_; refine JC_norm ⟨70, [], [_, _, _, _, _, _, _, _, _, _, _, _, _, _, _, _, _, _, _, _, _, _, _, _, _, _, _, _, _, _, _, _, _, _, _, _, _, _, _, _, _, _, _, _, _, _, _, _, _, _, _, _, _, _, _, _, _, _, _, _, _, _, _, _, _, _, _, _, _, _]⟩ [box _ _ [_, _, _], osl _ _ _ _ _ _, osl _ _ _ _ _ _, osl _ _ _ _ _ _] [_, _] rfl rfl rfl ?_
      refine JC_loopS ((Nat) × (AT) × (List Rw) × (Option Addr) × (Nat) × (Option Addr) × (Nat) × (Option Addr) × (Nat)) (fun (i, a, R, ar, cr, ad6, c6, ad7, c7) => i ≤ k ∧ Fit a ∧ NstI k i (er a) (Rls R) ∧ R.length ≤ i ∧ i ≤ c6 ∧ i ≤ c7) (fun (i, a, R, ar, cr, ad6, c6, ad7, c7) => k - i) (fun u (i, a, R, ar, cr, ad6, c6, ad7, c7) => [none, none, some (u 2), none, none, none, some (.slice ad6 (beg i).length c6), some (.slice ad7 (beg i).length c7), some (.int .i64 (i : Nat)), none, none, none, none, none, none, none, none, none, none, none, none, none, none, none, none, none, none, none, some (u 28), some (u 29), some (u 30), some (u 31), some (u 32), some (u 33), some (u 34), some (u 35), some (u 36), some (u 37), some (u 38), some (u 39), some (u 40), some (u 41), some (u 42), some (u 43), some (u 44), none, none, none, none, none, none, none, none, none, none, none, none, none, none, none, none, none, none, none, none, none, none, none, none, none]) (fun (i, a, R, ar, cr, ad6, c6, ad7, c7) => [some (box b19 63 [.int .i64 (k : Nat), ptr a, .slice ar R.length cr]), some (osl ar R.length cr 32 1 (rws R)), some (osl ad6 (beg i).length c6 3 1 (i64s (beg i))), some (osl ad7 (beg i).length c7 3 1 (i64s (beg i)))]) (fun (i, a, R, ar, cr, ad6, c6, ad7, c7) => [(true, vA a), (true, vRws R)]) (0, a19, [], none, 0, none, 0, none, 0) (by kernel_rfl) ?_ (by kernel_rfl) ?_ ?_
      · exact ⟨Nat.zero_le _, hf19, by rw [hn19]; exact NstI.new hk0, Nat.zero_le _, Nat.zero_le _, Nat.zero_le _⟩
      · exact (subset_cons am (subset_cons am subset_nil))
      intro u i hC; obtain ⟨i, a, R, ar, cr, ad6, c6, ad7, c7⟩ := i; obtain ⟨hi, hF, hI, hR, hc6, hc7⟩ := hC; refine JC_nm 70 [box _ _ [_, _, _], osl _ _ _ _ _ _, osl _ _ _ _ _ _, osl _ _ _ _ _ _] [_, _, _, _] ?_; refine JC_seq ?_; refine JC_sr ?_; refine JL_m ?_; refine JL_m ?_; refine JL_lss rfl rfl ?_; refine JL_split (fun h30 => ?_) (fun h30 => ?_)
      · refine JL_du 70 [box _ _ [_, _, _], osl _ _ _ _ _ _, osl _ _ _ _ _ _, osl _ _ _ _ _ _] [_, _, _, _] ?_; refine JC_true rfl ?_; refine JC_skip ?_; refine JE_then ?_; refine JC_seq ?_; refine JC_block ?_; refine JC_seq ?_
        have hbl := beg_len i
        have hbl1 := beg_len (i + 1)
        refine JC_region ?_; refine JL_m ?_; refine JL_m ?_; refine JL_build1 sl32 rfl rfl (fun g35 => ?_); refine JL_appendI (L := beg i) 2 4 sl32 rfl rfl rfl rfl (by omega) (by omega) (fun ad36 cap36 hc36 => ?_); refine JL_dropAt 4 ?_; refine JL_norm _ [box _ _ [_, _, _], osl _ _ _ _ _ _, osl _ _ _ _ _ _, osl _ _ _ _ _ _] [_, _, _, _] rfl rfl rfl ?_; rw [← beg_succ, show (beg i).length + 1 = (beg (i + 1)).length from by rw [beg_len, beg_len]]; refine JL_assign rfl ?_; refine JL_du 70 [box _ _ [_, _, _], osl _ _ _ _ _ _, osl _ _ _ _ _ _, osl _ _ _ _ _ _] [_, _, _, _] ?_; refine JC_sr ?_; refine JL_m ?_; refine JL_m ?_; refine JL_build1 sl32 rfl rfl (fun g39 => ?_); refine JL_appendI (L := beg i) 3 4 sl32 rfl rfl rfl rfl (by omega) (by omega) (fun ad40 cap40 hc40 => ?_); refine JL_dropAt 4 ?_; refine JL_norm _ [box _ _ [_, _, _], osl _ _ _ _ _ _, osl _ _ _ _ _ _, osl _ _ _ _ _ _] [_, _, _, _] rfl rfl rfl ?_; rw [← beg_succ, show (beg i).length + 1 = (beg (i + 1)).length from by rw [beg_len, beg_len]]; refine JL_assign rfl ?_; refine JL_du 70 [box _ _ [_, _, _], osl _ _ _ _ _ _, osl _ _ _ _ _ _, osl _ _ _ _ _ _] [_, _, _, _] ?_
        refine JC_sr ?_; refine JL_m ?_; refine JL_m ?_; refine JL_callO (AsksO.cons am (AsksO.cons am AsksO.nil)) (tredX_con (l := R) (L := beg (i + 1)) hk16 hF hI.tn (by omega) (by rw [beg_len]; omega)) rfl ca12 ⟨rfl, rfl, rfl⟩ ?_; rintro _ _ _ ⟨e43, a43, l43, ar43, cr43, rfl, rfl, rfl, hf43, hl43, hx43⟩; obtain ⟨he43, hI2⟩ := hI.step (by omega) hx43; refine JL_neq rfl rfl ?_; refine JL_split (fun h44 => ?_) (fun h44 => ?_)
        · exact absurd he43 h44
        · refine JL_du 70 [box _ _ [_, _, _], osl _ _ _ _ _ _, osl _ _ _ _ _ _, _] [_, _, _, _, _, _] ?_; refine JC_false rfl ?_; refine JC_skip ?_; refine JE_block_normal ?_; refine JE_then ?_; refine JC_region ?_; refine JL_m ?_; refine JL_add_to rfl rfl (IntWalk.i64_in _ (by omega)) ?_; refine JL_assign rfl ?_; refine JL_nu 70 [box _ _ [_, _, _], osl _ _ _ _ _ _, osl _ _ _ _ _ _, _] [_, _, _, _, _, _] ?_; refine JE_nextS (i + 1, a43, l43, ar43, cr43, ad36, cap36, ad40, cap40) (by kernel_rfl) ?_ ?_ (by kernel_rfl) ?_
          · exact ⟨by omega, hf43, hI2, by omega, by omega, by omega⟩
          · first | omega | (dsimp only; omega)
          · exact subset_app (subset_cons am (subset_cons am subset_nil)) (ssS (ssS (ssS (ssS ss0))))
      · refine JL_du 70 [box _ _ [_, _, _], osl _ _ _ _ _ _, osl _ _ _ _ _ _, osl _ _ _ _ _ _] [_, _, _, _] ?_; refine JC_false rfl ?_; refine JC_exit ?_; refine JE_then_exit ?_; refine JE_nextS_exit ?_; refine JE_block_exit ?_; refine JE_then ?_; refine JC_seq ?_; obtain rfl : i = k := by omega
        have hbk : (zs (List.range i)).length = i := beg_len i
        obtain ⟨hct, hfs, hha⟩ := hI.done hk0 hk16
        have hp2 : 2 ^ (i - 1) < 18446744073709551616 := Nat.lt_of_le_of_lt (Nat.pow_le_pow_right (by decide) (show i - 1 ≤ 15 by omega)) (by decide)
        have hzl := zs_length (fstT (er a))
        have hRl : ∀ r ∈ R, r.L.length ≤ 1000000 := fun r hr => by
          obtain ⟨j, hj, e⟩ := hI.row r.L (List.mem_map.2 ⟨r, hr, rfl⟩); rw [e, beg_len]; omega
        refine JC_region ?_; refine JL_m ?_; refine JL_callF' (Asks.cons (by first | exact holds_of_mem am | (exact holds_of_box 0 rfl) | (exact holds_of_own 1 rfl) | (exact holds_of_own 2 rfl) | (exact holds_of_own 3 rfl)) (Asks.cons (by first | exact holds_of_mem am | (exact holds_of_box 0 rfl) | (exact holds_of_own 1 rfl) | (exact holds_of_own 2 rfl) | (exact holds_of_own 3 rfl)) Asks.nil)) (tcount_con hF hI.tn hk16) rfl ca18 ⟨rfl, rfl⟩ ?_; rintro _ _ ⟨ad47, cap47, rfl, hk47, hm47, rfl⟩; rw [hct]; refine JL_callF' (Asks.cons (by first | exact holds_of_mem am | (exact holds_of_own 1 rfl) | (exact holds_of_own 2 rfl) | (exact holds_of_own 3 rfl)) Asks.nil) (small_con (x := 2 ^ (i - 1)) hp2) rfl ca22 ⟨rfl, rfl⟩ ?_; rintro _ _ ⟨rfl, rfl⟩; refine JL_m ?_; refine JL_extract (v := .int .u64 ((2 ^ (i - 1) : Nat) : Int)) rfl rfl ?_; refine JL_extract (v := .bool true) rfl rfl ?_; refine JL_assign rfl ?_; refine JL_assign rfl ?_; refine JL_du 70 [box _ _ [_, _, _], osl _ _ _ _ _ _, osl _ _ _ _ _ _, osl _ _ _ _ _ _] [_, _, _, _, _] ?_; refine JC_sr ?_; refine JL_m ?_; refine JL_m ?_; refine JL_gy ?_; refine JL_m ?_; refine JL_gy ?_
        refine JL_m ?_; refine JL_gy ?_; refine JL_sub_to rfl rfl (IntWalk.i64_in _ (by omega)) ?_; refine JL_gy ?_; refine JL_shl_to (c := ((2 ^ (i - 1) : Nat) : Int)) rfl rfl (by omega) (shl_pow hk0 hk16) ?_; refine JL_gy ?_; refine JL_eql rfl rfl ?_; refine JL_split (fun h57 => ?_) (fun h57 => ?_)
        · refine JL_pick_t rfl rfl ?_; refine JL_m ?_; refine JL_gy ?_; refine JL_m ?_; refine JL_gy ?_; refine JL_m ?_; refine JL_gy ?_; refine JL_callF' (Asks.cons (by first | exact holds_of_mem am | (exact holds_of_box 0 rfl) | (exact holds_of_own 1 rfl) | (exact holds_of_own 2 rfl) | (exact holds_of_own 3 rfl)) (Asks.cons (by first | exact holds_of_mem am | (exact holds_of_box 0 rfl) | (exact holds_of_own 1 rfl) | (exact holds_of_own 2 rfl) | (exact holds_of_own 3 rfl)) (Asks.cons (by first | exact holds_of_mem am | (exact holds_of_box 0 rfl) | (exact holds_of_own 1 rfl) | (exact holds_of_own 2 rfl) | (exact holds_of_own 3 rfl)) (Asks.cons (by first | exact holds_of_mem am | (exact holds_of_box 0 rfl) | (exact holds_of_own 1 rfl) | (exact holds_of_own 2 rfl) | (exact holds_of_own 3 rfl)) Asks.nil)))) (has_con (by omega) hRl (by omega) (by rw [beg_len]; omega)) rfl ca23 ⟨rfl, rfl, rfl⟩ ?_; rintro _ _ ⟨rfl, rfl⟩; rw [decide_eq_true (p := hasP i (Rls R) (beg i)) hha]; refine JL_pick_t rfl rfl ?_; refine JL_m ?_; refine JL_gy ?_; refine JL_m ?_; refine JL_gy ?_
          refine JL_callF' (Asks.cons (by first | exact holds_of_mem am | (exact holds_of_box 0 rfl) | (exact holds_of_own 1 rfl) | (exact holds_of_own 2 rfl) | (exact holds_of_own 3 rfl)) (Asks.cons (by first | exact holds_of_mem am | (exact holds_of_box 0 rfl) | (exact holds_of_own 1 rfl) | (exact holds_of_own 2 rfl) | (exact holds_of_own 3 rfl)) Asks.nil)) (tfirst_con hF hI.tn hk16) rfl ca20 ⟨rfl, rfl⟩ ?_; rintro _ _ ⟨ad66, c66, rfl, hc66, rfl⟩; rw [hfs]; refine JL_gy ?_; refine JL_m ?_; refine JL_gy ?_; refine JL_callF' (Asks.cons (by first | exact holds_of_mem am | (exact holds_of_own 1 rfl) | (exact holds_of_own 2 rfl) | (exact holds_of_own 3 rfl)) (Asks.cons (by first | exact holds_of_mem am | (exact holds_of_own 1 rfl) | (exact holds_of_own 2 rfl) | (exact holds_of_own 3 rfl)) Asks.nil)) (bints_con (by omega)) rfl ca16 ⟨rfl, rfl, rfl⟩ ?_; rintro _ _ ⟨rfl, rfl⟩; refine JL_pick_t rfl rfl ?_; refine JL_assign rfl ?_; refine JL_du 70 [box _ _ [_, _, _], osl _ _ _ _ _ _, osl _ _ _ _ _ _, osl _ _ _ _ _ _] [_, _, _, _, _, _] ?_; refine JC_ret ?_; refine JE_ret (vs := [_]) [] Tryz.results4 ⟨rfl, rfl⟩ ?_ ?_
          · exact ⟨rfl, rfl⟩
          · exact all_nil
        · exact absurd rfl h57

theorem pqtreeNested_con {s : Nat} (hs : s < 256) : ConF Tryz.prog 4 [.int .u8 ((s : Nat) : Int)] [] (fun v φo => v = .bool true ∧ φo = []) :=
  ConA.conF (pqtreeNested_conA hs) fun _ _ h => h.2

end Go.Fw.K
