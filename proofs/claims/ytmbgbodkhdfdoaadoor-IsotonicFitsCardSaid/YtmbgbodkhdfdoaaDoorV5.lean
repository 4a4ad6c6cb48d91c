/- Walks through functions of the given program: each meets its contract. (Printed by a program of this repo.) -/
import Derived.Test.YtmbgbodkhdfdoaaDoorV1
import Derived.Test.YtmbgbodkhdfdoaaDoorV2
import Derived.Test.YtmbgbodkhdfdoaaDoorV3
import Derived.Test.YtmbgbodkhdfdoaaDoorV4
import Derived.Test.YtmbgbodkhdfdoaaDoorFwK
import Derived.Test.YtmbgbodkhdfdoaaDoorProg
namespace Go.Fw.V5
open Go Go.RowKit Go.Proofs Go.Nat9 Go.Fw
attribute [local irreducible] JC JL JE
theorem ca94 : callable Tryd.prog 94 = true := by kernel_rfl
theorem ca97 : callable Tryd.prog 97 = true := by kernel_rfl
theorem fo24_0 : fOf Tryd.prog 24 0 = some 0 := by kernel_rfl
theorem sl22 : slOf Tryd.prog 22 = some (87, 1, 4, [.int .u32 0]) := by kernel_rfl
theorem ty22 : tyOf Tryd.prog 22 = some (false, 1) := by kernel_rfl
theorem ty24 : tyOf Tryd.prog 24 = some (true, 1) := by kernel_rfl
theorem z24 : zeroOf Tryd.prog 24 = some [.slice none 0 0] := by kernel_rfl
end Go.Fw.V5
namespace Go.Fw.K
open Go Go.RowKit Go.Proofs Go.Nat9 Go.Fw Go.Fw.V5
attribute [local irreducible] JC JL JE

theorem rgcd_con (ad1 : Option Addr) (n1 c1 : Nat) (L1 : List Nat) (x1 : Nat) (g1 : NIn n1 L1 x1 100000000) (ad2 : Option Addr) (n2 c2 : Nat) (L2 : List Nat) (x2 : Nat) (g2 : NIn n2 L2 x2 100000000) :
    ConF Tryd.prog 96 [.agg #[.slice ad1 n1 c1], .agg #[.slice ad2 n2 c2]] [vCells ad1 (u32s L1), vCells ad2 (u32s L2)]
      (LN (Nat.gcd x1 x2)) := by
  have hs1 := g1.sz
  have hl1 := g1.le
  have hs2 := g2.sz
  have hl2 := g2.le
  refine ConF_of Tryd.func96 rfl 26 _ rfl rfl ?_
  intro w0
  refine JC_norm ⟨26, [], [_, _, _, _, _, _, _, _, _, _, _, _, _, _, _, _, _, _, _, _, _, _, _, _, _, _]⟩ [] [_, _] rfl rfl rfl ?_
  refine JC_seq ?_
  refine JC_region ?_
  refine JL_box rfl rfl (fun b2 => ?_)
  refine JL_box rfl rfl (fun b3 => ?_)
  refine JL_alloc z24 (fun b4 => ?_)
  refine JL_done_up 26 [box _ _ [_], box _ _ [_], box _ _ [_]] [_, _] rfl rfl (by simp only [nrmF]; rfl) rfl rfl ?_
  refine JC_seq ?_
  refine JC_region ?_
  refine JL_loadA (vs := [_]) 0 ty24 rfl rfl ⟨rfl, trivial⟩ ?_
  refine JL_callF' (Asks.cons (holds_of_mem (by repeat (first | with_reducible exact mm0 | refine mmS ?_))) Asks.nil) (rnorm_con _ _ _ _ _ (g1.mono (by omega))) rfl ca94 ⟨rfl, rfl⟩ ?_
  rintro _ _ ⟨ad9, cap9, rfl, hk9, hm9, rfl⟩
  refine JL_store (vs := [_]) 0 ty24 rfl rfl rfl (AllOne.cons rfl AllOne.nil) rfl (Nat.le_of_ble_eq_true rfl) ?_
  refine JL_done_up 26 [box _ _ [_], box _ _ [_], box _ _ [_]] [_, _, _] rfl rfl (by simp only [nrmF]; rfl) rfl rfl ?_
  refine JC_seq ?_
  refine JC_region ?_
  refine JL_loadA (vs := [_]) 1 ty24 rfl rfl ⟨rfl, trivial⟩ ?_
  refine JL_callF' (Asks.cons (holds_of_mem (by repeat (first | with_reducible exact mm0 | refine mmS ?_))) Asks.nil) (rnorm_con _ _ _ _ _ (g2.mono (by omega))) rfl ca94 ⟨rfl, rfl⟩ ?_
  rintro _ _ ⟨ad11, cap11, rfl, hk11, hm11, rfl⟩
  refine JL_store (vs := [_]) 1 ty24 rfl rfl rfl (AllOne.cons rfl AllOne.nil) rfl (Nat.le_of_ble_eq_true rfl) ?_
  refine JL_done_up 26 [box _ _ [_], box _ _ [_], box _ _ [_]] [_, _, _, _] rfl rfl (by simp only [nrmF]; rfl) rfl rfl ?_
  refine JC_seq ?_
  refine JC_block ?_
  refine JC_loopS ((Option Addr) × (Nat) × (Nat) × (Option Addr) × (Nat) × (Nat)) (fun (a1, k1, x, a2, k2, y) => Nat.gcd x y = Nat.gcd x1 x2 ∧ (limbsOf x).length ≤ k1 ∧ k1 ≤ 9223372036854775807 ∧ (limbsOf y).length ≤ k2 ∧ k2 ≤ 9223372036854775807 ∧ (limbsOf x).length ≤ 100000001 ∧ (limbsOf y).length ≤ 100000001) (fun (a1, k1, x, a2, k2, y) => y) (fun u (a1, k1, x, a2, k2, y) => [none, none, none, none, none, some (u 5), some (u 6), some (u 7), none, none, none, none, some (u 12), some (u 13), some (u 14), some (u 15), some (u 16), some (u 17), some (u 18), some (u 19), some (u 20), some (u 21), some (u 22), some (u 23), some (u 24), none]) (fun (a1, k1, x, a2, k2, y) => [some (box b2 24 [.slice a1 (limbsOf x).length k1]), some (box b3 24 [.slice a2 (limbsOf y).length k2]), none]) (fun (a1, k1, x, a2, k2, y) => [(true, vCells a1 (u32s (limbsOf x))), (true, vCells a2 (u32s (limbsOf y)))]) (ad9, cap9, x1, ad11, cap11, x2) (by kernel_rfl) ?_ (by kernel_rfl) ?_ ?_
  · exact ⟨rfl, hk9, hm9, hk11, hm11, by omega, by omega⟩
  · exact (subset_cons (by repeat (first | with_reducible exact mm0 | refine mmS ?_)) (subset_cons (by repeat (first | with_reducible exact mm0 | refine mmS ?_)) subset_nil))
  intro u i hC
  obtain ⟨a1, k1, x, a2, k2, y⟩ := i
  obtain ⟨hg, hk1, hm1, hk2, hm2, hb1, hb2⟩ := hC
  refine JC_norm ⟨26, [], [_, _, _, _, _, _, _, _, _, _, _, _, _, _, _, _, _, _, _, _, _, _, _, _, _, _]⟩ [box _ _ [_], box _ _ [_], box _ _ [_]] [_, _, _, _, _, _] rfl rfl rfl ?_
  refine JC_seq ?_
  refine JC_seq ?_
  refine JC_region ?_
  refine JL_fieldAddr fo24_0 rfl ?_
  refine JL_load 1 ty22 rfl rfl rfl ?_
  refine JL_len sl22 rfl ?_
  refine JL_gtr rfl rfl ?_
  refine JL_split (fun h15 => ?_) (fun h15 => ?_)
  · have hy0 : 0 < y := limbs_pos (by omega)
    have hml := len_limbsOf_le (Nat.le_of_lt (Nat.mod_lt x hy0))
    refine JL_done_up 26 [box _ _ [_], box _ _ [_], box _ _ [_]] [_, _, _, _, _, _] rfl rfl (by simp only [nrmF]; rfl) rfl rfl ?_
    refine JC_true rfl ?_
    refine JC_skip ?_
    refine JE_then ?_
    refine JC_block ?_
    refine JC_seq ?_
    refine JC_region ?_
    refine JL_loadA (vs := [_]) 0 ty24 rfl rfl ⟨rfl, trivial⟩ ?_
    refine JL_loadA (vs := [_]) 1 ty24 rfl rfl ⟨rfl, trivial⟩ ?_
    refine JL_callF' (Asks.cons (holds_of_mem (by repeat (first | with_reducible exact mm0 | refine mmS ?_))) (Asks.cons (holds_of_mem (by repeat (first | with_reducible exact mm0 | refine mmS ?_))) Asks.nil)) (rdivmod_con _ _ _ _ _ (NIn.of (by omega)) _ _ _ _ _ (NIn.of (by omega)) hy0) rfl ca97 ⟨rfl, rfl, rfl⟩ ?_
    rintro _ _ ⟨ad19, cap19, ae19, caq19, rfl, hk19, hm19, hkq19, hmq19, rfl⟩
    refine JL_move rfl ?_
    refine JL_extract rfl rfl ?_
    refine JL_extract rfl rfl ?_
    refine JL_extract rfl rfl ?_
    refine JL_alloc z24 (fun b5 => ?_)
    refine JL_alloc z24 (fun b6 => ?_)
    refine JL_store (vs := [_]) 3 ty24 rfl rfl rfl (AllOne.cons rfl AllOne.nil) rfl (Nat.le_of_ble_eq_true rfl) ?_
    refine JL_store (vs := [_]) 4 ty24 rfl rfl rfl (AllOne.cons rfl AllOne.nil) rfl (Nat.le_of_ble_eq_true rfl) ?_
    refine JL_assign rfl ?_
    refine JL_done_up 26 [box _ _ [_], box _ _ [_], box _ _ [_], box _ _ [_], box _ _ [_]] [_, _, _, _, _, _, _, _] rfl rfl (by simp only [nrmF]; rfl) rfl rfl ?_
    refine JC_seq ?_
    refine JC_region ?_
    refine JL_loadA (vs := [_]) 1 ty24 rfl rfl ⟨rfl, trivial⟩ ?_
    refine JL_store (vs := [_]) 0 ty24 rfl rfl rfl (AllOne.cons rfl AllOne.nil) rfl (Nat.le_of_ble_eq_true rfl) ?_
    refine JL_done_up 26 [box _ _ [_], box _ _ [_], box _ _ [_], box _ _ [_], box _ _ [_]] [_, _, _, _, _, _, _, _] rfl rfl (by simp only [nrmF]; rfl) rfl rfl ?_
    refine JC_region ?_
    refine JL_loadA (vs := [_]) 4 ty24 rfl rfl ⟨rfl, trivial⟩ ?_
    refine JL_store (vs := [_]) 1 ty24 rfl rfl rfl (AllOne.cons rfl AllOne.nil) rfl (Nat.le_of_ble_eq_true rfl) ?_
    refine JL_nil_up 26 [box _ _ [_], box _ _ [_], box _ _ [_], box _ _ [_], box _ _ [_]] [_, _, _, _, _, _, _, _] rfl rfl (by simp only [nrmF]; rfl) rfl rfl ?_
    refine JE_block_normal ?_
    refine JE_dropAt 4 ?_
    refine JE_norm _ [box _ _ [_], box _ _ [_], box _ _ [_], box _ _ [_]] [_, _, _, _, _, _, _, _] rfl rfl rfl ?_
    refine JE_dropAt 3 ?_
    refine JE_norm _ [box _ _ [_], box _ _ [_], box _ _ [_]] [_, _, _, _, _, _, _, _] rfl rfl rfl ?_
    refine JE_nextS (a2, k2, y, ae19, caq19, x % y) (by kernel_rfl) ?_ ?_ (by kernel_rfl) ?_
    · exact ⟨by rw [← hg, Nat.gcd_comm y, ← Nat.gcd_rec, Nat.gcd_comm], hk2, hm2, hkq19, hmq19, hb2, by omega⟩
    · exact Nat.mod_lt x hy0
    · exact subset_app (subset_cons (by repeat (first | with_reducible exact mm0 | refine mmS ?_)) (subset_cons (by repeat (first | with_reducible exact mm0 | refine mmS ?_)) subset_nil)) (ssS (ssS (ssS (ssS ss0))))
  · have hy0 : y = 0 := limbs_zero (by omega)
    have hgx : x = Nat.gcd x1 x2 := by rw [← hg, hy0, Nat.gcd_zero_right]
    refine JL_done_up 26 [box _ _ [_], box _ _ [_], box _ _ [_]] [_, _, _, _, _, _] rfl rfl (by simp only [nrmF]; rfl) rfl rfl ?_
    refine JC_false rfl ?_
    refine JC_exit ?_
    refine JE_then_exit ?_
    refine JE_nextS_exit ?_
    refine JE_block_exit ?_
    refine JE_then ?_
    refine JC_seq ?_
    refine JC_region ?_
    refine JL_loadA (vs := [_]) 0 ty24 rfl rfl ⟨rfl, trivial⟩ ?_
    refine JL_store (vs := [_]) 2 ty24 rfl rfl rfl (AllOne.cons rfl AllOne.nil) rfl (Nat.le_of_ble_eq_true rfl) ?_
    refine JL_done_up 26 [box _ _ [_], box _ _ [_], box _ _ [_]] [_, _, _, _, _, _] rfl rfl (by simp only [nrmF]; rfl) rfl rfl ?_
    refine JC_ret ?_
    refine JE_ret (vs := [_]) [vCells a1 (u32s (limbsOf x))] Tryd.results96 ⟨RV.cell (vs := [_]) 2 ty24 rfl rfl ⟨rfl, trivial⟩, rfl⟩ ?_ ?_
    · exact ⟨a1, k1, by rw [← hgx]; rfl, by rw [← hgx]; exact hk1, hm1, by rw [← hgx]⟩
    · exact (all_cons (by repeat (first | with_reducible exact mm0 | refine mmS ?_)) all_nil)

end Go.Fw.K
