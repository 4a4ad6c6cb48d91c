/- Walks through functions of the given program: each meets its contract. (Printed by a program of this repo.) -/
import Derived.Test.YtgnljjdcbfijnaaDoorF
import Derived.Test.YtgnljjdcbfijnaaDoorTxtG
import Derived.Test.YtgnljjdcbfijnaaDoorProg
namespace Go.Fw.X3
open Go Go.RowKit Go.Proofs Go.Nat9 Go.Fw
attribute [local irreducible] JC JL JE
theorem ca51 : callable Tryd.prog 51 = true := by kernel_rfl
theorem ca54 : callable Tryd.prog 54 = true := by kernel_rfl
theorem ca66 : callable Tryd.prog 66 = true := by kernel_rfl
theorem ca72 : callable Tryd.prog 72 = true := by kernel_rfl
theorem fo35_0 : fOf Tryd.prog 35 0 = some 0 := by kernel_rfl
theorem fo35_1 : fOf Tryd.prog 35 1 = some 1 := by kernel_rfl
theorem fo35_2 : fOf Tryd.prog 35 2 = some 2 := by kernel_rfl
theorem it87 : intTy Tryd.prog 87 = some .u64 := by kernel_rfl
theorem sl31 : slOf Tryd.prog 31 = some (101, 1, 4, [.int .u32 0]) := by kernel_rfl
theorem ty101 : tyOf Tryd.prog 101 = some (false, 1) := by kernel_rfl
theorem ty33 : tyOf Tryd.prog 33 = some (true, 1) := by kernel_rfl
theorem ty35 : tyOf Tryd.prog 35 = some (true, 3) := by kernel_rfl
theorem ty4 : tyOf Tryd.prog 4 = some (false, 1) := by kernel_rfl
theorem us101 : (Tryd.prog.underlying 101).isSome = true := by kernel_rfl
theorem z99 : zeroOf Tryd.prog 99 = some [.pointer none, .slice none 0 0] := by kernel_rfl
end Go.Fw.X3
namespace Go.Fw.K
open Go Go.RowKit Go.Proofs Go.Nat9 Go.Fw Go.Fw.X3
attribute [local irreducible] JC JL JE

theorem ntextT_con {x : Nat} {ad1 : Option Addr} {n1 c1 : Nat} {L1 : List Nat} (g1 : NIn n1 L1 x 100) (hx0 : 0 < x) (hx : x < 1000000000) :
    ConF Tryd.prog 54 [.agg #[.slice ad1 n1 c1]] [vCells ad1 (u32s L1), vTab]
      (fun v φo => v = .string (dig x) ∧ φo = []) := by
  have h0 := dig_pos x
  have hs := dig_le hx
  have hlen := limbs_one hx0 hx
  obtain ⟨_, hL⟩ := limbsOf_single (n := x) hlen
  refine ConF_of Tryd.func54 rfl 38 _ rfl rfl ?_
  intro w0
  refine JC_norm ⟨38, [], [_, _, _, _, _, _, _, _, _, _, _, _, _, _, _, _, _, _, _, _, _, _, _, _, _, _, _, _, _, _, _, _, _, _, _, _, _, _]⟩ [] [_, _] rfl rfl rfl ?_
  refine JC_seq ?_
  refine JC_region ?_
  refine JL_box rfl rfl (fun b1 => ?_)
  refine JL_assign rfl ?_
  refine JL_done_up 38 [box _ _ [_]] [_, _] rfl rfl (by simp only [nrmF]; rfl) rfl rfl ?_
  refine JC_seq ?_
  refine JC_region ?_
  refine JL_loadA (vs := [_]) 0 ty33 rfl rfl ⟨rfl, trivial⟩ ?_
  refine JL_callF' (Asks.cons (holds_of_mem (by repeat (first | with_reducible exact mm0 | refine mmS ?_))) Asks.nil) (limbs_con _ _ _ _ _ (g1.mono (by omega))) rfl ca66 ⟨rfl, rfl⟩ ?_
  rintro _ _ ⟨ad8, cap8, rfl, hk8, hm8, rfl⟩
  refine JL_assign rfl ?_
  refine JL_done_up 38 [box _ _ [_]] [_, _, _] rfl rfl (by simp only [nrmF]; rfl) rfl rfl ?_
  refine JC_seq ?_
  refine JC_seq ?_
  refine JC_region ?_
  refine JL_move rfl ?_
  refine JL_len sl31 rfl ?_
  refine JL_eql rfl rfl ?_
  refine JL_split (fun h11 => ?_) (fun h11 => ?_)
  · exact absurd h11 (by omega)
  · refine JL_done_up 38 [box _ _ [_]] [_, _, _] rfl rfl (by simp only [nrmF]; rfl) rfl rfl ?_
    refine JC_false rfl ?_
    refine JC_skip ?_
    refine JE_then ?_
    refine JC_seq ?_
    refine JC_rebase (fun w1 hb hle hR => ?_)
    have hRd : ∀ σ2 φ2, Reads w1 σ2 φ2 ad8 (u32s (limbsOf x)) := fun σ2 φ2 w st => ⟨_, hR _ List.mem_cons_self σ2 φ2 w st⟩
    have hTd : ∀ σ2 φ2 w, St w1 w σ2 φ2 → vTab.holds (fun _ => False) w := fun σ2 φ2 w st => hR (false, vTab) (by repeat (first | with_reducible exact mm0 | refine mmS ?_)) σ2 φ2 w st
    refine JC_region ?_
    refine JL_alloc z99 (fun b4 => ?_)
    refine JL_done_up 38 [box _ _ [_, _]] [] rfl rfl (by simp only [nrmF]; rfl) rfl rfl ?_
    refine JC_seq ?_
    refine JC_seq ?_
    refine JC_region ?_
    refine JL_move rfl ?_
    refine JL_len sl31 rfl ?_
    refine JL_sub_to rfl rfl (IntWalk.i64_in _ (by omega)) ?_
    rw [show (((limbsOf x).length : Int) - 1 : Int) = ((1 : Nat) : Int) - 1 from by omega]
    refine JL_assign rfl ?_
    refine JL_done_up 38 [box _ _ [_, _]] [] rfl rfl (by simp only [nrmF]; rfl) rfl rfl ?_
    refine JC_block ?_
    refine JC_addNil 5 1 ?_
    refine JC_norm ⟨38, [], [_, _, _, _, _, _, _, _, _, _, _, _, _, _, _, _, _, _, _, _, _, _, _, _, _, _, _, _, _, _, _, _, _, _, _, _, _, _]⟩ [box _ _ [_, _], osl _ _ _ _ _ _] [] rfl rfl rfl ?_
    refine JC_loopS ((Nat) × (Value) × (Option Addr) × (Nat) × (Nat) × (List Value)) (fun (k, pa, ad, m, cap, cs) => TxtI b4 (dig x) k pa ad m cap cs) (fun (k, pa, ad, m, cap, cs) => k) (fun u (k, pa, ad, m, cap, cs) => [none, none, none, none, none, some (.int .i64 ((k : Nat) - 1)), some (u 6), none, none, none, none, none, none, none, none, some (u 15), some (u 16), some (u 17), some (u 18), some (u 19), some (u 20), some (u 21), some (u 22), some (u 23), some (u 24), some (u 25), some (u 26), some (u 27), some (u 28), some (u 29), some (u 30), some (u 31), some (u 32), some (u 33), some (u 34), some (u 35), some (u 36), none]) (fun (k, pa, ad, m, cap, cs) => [some (box b4 99 [pa, .slice ad m cap]), some (osl ad m cap 5 1 cs)]) (fun (k, pa, ad, m, cap, cs) => []) (1, .pointer none, none, 0, 0, []) (by kernel_rfl) ?_ (by kernel_rfl) ?_ ?_
    · exact .inl ⟨rfl, rfl, rfl, rfl, rfl, rfl⟩
    · exact subset_nil
    intro u i hI
    obtain ⟨k, pa, ad, m, cap, cs⟩ := i
    refine JC_norm ⟨38, [], [_, _, _, _, _, _, _, _, _, _, _, _, _, _, _, _, _, _, _, _, _, _, _, _, _, _, _, _, _, _, _, _, _, _, _, _, _, _]⟩ [box _ _ [_, _], osl _ _ _ _ _ _] [] rfl rfl rfl ?_
    refine JC_seq ?_
    refine JC_seq ?_
    refine JC_region ?_
    refine JL_move rfl ?_
    refine JL_geq rfl rfl ?_
    refine JL_split (fun h16 => ?_) (fun h16 => ?_)
    · obtain ⟨rfl, rfl, rfl, rfl, rfl, rfl⟩ : k = 1 ∧ pa = .pointer none ∧ ad = none ∧ m = 0 ∧ cap = 0 ∧ cs = [] := by
        rcases hI with h | h
        · exact h
        · omega
      refine JL_done_up 38 [box _ _ [_, _], osl _ _ _ _ _ _] [] rfl rfl (by simp only [nrmF]; rfl) rfl rfl ?_
      refine JC_true rfl ?_
      refine JC_skip ?_
      refine JE_then ?_
      refine JC_seq ?_
      refine JC_block ?_
      refine JC_seq ?_
      refine JC_region ?_
      refine JL_move rfl ?_
      refine JL_move rfl ?_
      refine JL_idx 0 sl31 rfl rfl (by omega) (by omega) (hRd _ _) (by first | (rw [u32s_length]; omega) | (rw [i64s_length]; omega)) ?_
      refine JL_loadE ty101 rfl (hRd _ _) (u32s_get (by omega)) ?_
      rw [show (limbsOf x).getD 0 0 = x from by rw [hL]; rfl]
      refine JL_convInt us101 it87 rfl (IntWalk.u64_in _ (by omega)) ?_
      refine JL_callF' (Asks.cons (hTd _ _) Asks.nil) (fmtT_con (by omega)) rfl ca72 ⟨rfl, rfl, rfl⟩ ?_
      rintro _ _ ⟨rfl, rfl⟩
      refine JL_assign rfl ?_
      refine JL_done_up 38 [box _ _ [_, _], osl _ _ _ _ _ _] [] rfl rfl (by simp only [nrmF]; rfl) rfl rfl ?_
      refine JC_seq ?_
      refine JC_seq ?_
      refine JC_region ?_
      refine JL_move rfl ?_
      refine JL_move rfl ?_
      refine JL_len sl31 rfl ?_
      refine JL_sub_to rfl rfl (IntWalk.i64_in _ (by omega)) ?_
      refine JL_lss rfl rfl ?_
      refine JL_split (fun h29 => ?_) (fun h29 => ?_)
      · exact absurd h29 (by omega)
      · refine JL_done_up 38 [box _ _ [_, _], osl _ _ _ _ _ _] [] rfl rfl (by simp only [nrmF]; rfl) rfl rfl ?_
        refine JC_false rfl ?_
        refine JC_skip ?_
        refine JE_then ?_
        refine JC_region ?_
        refine JL_move rfl ?_
        refine JL_bwrite rfl (by kernel_rfl) ⟨rfl, rfl, rfl⟩ h0 (Nat.le_trans hs (by decide)) (fun ad36 cap36 => ?_)
        refine JL_nil_up 38 [box _ _ [_, _], osl _ _ _ _ _ _] [] rfl rfl (by simp only [nrmF]; rfl) rfl rfl ?_
        refine JE_block_normal ?_
        refine JE_then ?_
        refine JC_region ?_
        refine JL_move rfl ?_
        refine JL_sub_to rfl rfl (IntWalk.i64_in _ (by omega)) ?_
        rw [show (((1 : Nat) : Int) - 1 - 1 : Int) = ((0 : Nat) : Int) - 1 from by omega]
        refine JL_assign rfl ?_
        refine JL_nil_up 38 [box _ _ [_, _], osl _ _ _ _ _ _] [] rfl rfl (by simp only [nrmF]; rfl) rfl rfl ?_
        refine JE_nextS (0, .pointer (some ⟨b4, 0, none⟩), ad36, (dig x).size, cap36, Lib.strCells (dig x)) (by kernel_rfl) ?_ ?_ (by kernel_rfl) ?_
        · exact .inr ⟨rfl, rfl, rfl, rfl⟩
        · first | omega | (dsimp only; omega)
        · exact subset_app subset_nil ss0
    · obtain ⟨rfl, rfl, rfl, rfl⟩ : k = 0 ∧ pa = .pointer (some ⟨b4, 0, none⟩) ∧ m = (dig x).size ∧ cs = Lib.strCells (dig x) := by
        rcases hI with h | h
        · omega
        · exact h
      refine JL_done_up 38 [box _ _ [_, _], osl _ _ _ _ _ _] [] rfl rfl (by simp only [nrmF]; rfl) rfl rfl ?_
      refine JC_false rfl ?_
      refine JC_exit ?_
      refine JE_then_exit ?_
      refine JE_nextS_exit ?_
      refine JE_block_exit ?_
      refine JE_then ?_
      refine JC_seq ?_
      refine JC_region ?_
      refine JL_bstring rfl (by kernel_rfl) ⟨rfl, rfl⟩ h0 ?_
      refine JL_assign rfl ?_
      refine JL_done_up 38 [] [] rfl rfl (by simp only [nrmF]; rfl) rfl rfl ?_
      refine JC_ret ?_
      refine JE_retB (vs := [_]) hb hle Tryd.results54 ⟨rfl, rfl⟩ ?_
      exact ⟨rfl, rfl⟩

theorem ftextT_con {s1 : Bool} {ad1 : Option Addr} {n1 c1 : Nat} {L1 : List Nat} {be1 : Option Addr} {m1 e1 : Nat} {M1 : List Nat} {q1 : Rat} (g1 : FIn s1 n1 L1 m1 M1 q1 90) (sg : Bool) (hsg : fneg (some q1) = sg) (hn0 : 0 < q1.num.natAbs) (hn : q1.num.natAbs < 1000000000) (hd : q1.den < 1000000000) (b : Bool) (hb : ((dig q1.den).toList == (⟨#[49]⟩ : ByteArray).toList) = b) :
    ConF Tryd.prog 29 [.agg #[.bool s1, .slice ad1 n1 c1, .slice be1 m1 e1]] [vCells ad1 (u32s L1), vCells be1 (u32s M1), vTab]
      (fun v φo => v = .string (bif b then (bif sg then ⟨#[45]⟩ ++ dig q1.num.natAbs else dig q1.num.natAbs) else (bif sg then ⟨#[45]⟩ ++ dig q1.num.natAbs else dig q1.num.natAbs) ++ (⟨#[47]⟩ ++ dig q1.den)) ∧ φo = []) := by
  have hq1 := g1.qs.mono (b := 100) (by decide)
  have hs1 := dig_le hn
  have ht1 := dig_le hd
  have hd0 : 0 < q1.den := q1.den_pos
  refine ConF_of Tryd.func29 rfl 24 _ rfl rfl ?_
  intro w0
  refine JC_norm ⟨24, [], [_, _, _, _, _, _, _, _, _, _, _, _, _, _, _, _, _, _, _, _, _, _, _, _]⟩ [] [_, _, _] rfl rfl rfl ?_
  refine JC_seq ?_
  refine JC_region ?_
  refine JL_box rfl rfl (fun b1 => ?_)
  refine JL_assign rfl ?_
  refine JL_done_up 24 [box _ _ [_, _, _]] [_, _, _] rfl rfl (by simp only [nrmF]; rfl) rfl rfl ?_
  refine JC_seq ?_
  refine JC_region ?_
  refine JL_loadA (vs := [_, _, _]) 0 ty35 rfl rfl ⟨rfl, rfl, rfl, trivial⟩ ?_
  refine JL_callF' (Asks.cons (holds_of_mem (by repeat (first | with_reducible exact mm0 | refine mmS ?_))) (Asks.cons (holds_of_mem (by repeat (first | with_reducible exact mm0 | refine mmS ?_))) Asks.nil)) (fnorm_con (g1.mono (by omega))) rfl ca51 ⟨rfl, rfl⟩ ?_
  rintro _ _ ⟨ad6, cp6, be6, ce6, rfl, rfl⟩
  refine JL_store (vs := [_, _, _]) 0 ty35 rfl rfl rfl (AllOne.cons rfl (AllOne.cons rfl (AllOne.cons rfl AllOne.nil))) rfl (Nat.le_of_ble_eq_true rfl) ?_
  refine JL_done_up 24 [box _ _ [_, _, _]] [_, _, _, _, _] rfl rfl (by simp only [nrmF]; rfl) rfl rfl ?_
  refine JC_seq ?_
  refine JC_region ?_
  refine JL_fieldAddr fo35_1 rfl ?_
  refine JL_loadA (vs := [_]) 0 ty33 rfl rfl ⟨rfl, trivial⟩ ?_
  refine JL_callF' (Asks.cons (holds_of_mem (by repeat (first | with_reducible exact mm0 | refine mmS ?_))) (Asks.cons (holds_of_mem (by repeat (first | with_reducible exact mm0 | refine mmS ?_))) Asks.nil)) (ntextT_con (NIn.num hq1) hn0 hn) rfl ca54 ⟨rfl, rfl⟩ ?_
  rintro _ _ ⟨rfl, rfl⟩
  refine JL_assign rfl ?_
  refine JL_done_up 24 [box _ _ [_, _, _]] [_, _, _, _, _] rfl rfl (by simp only [nrmF]; rfl) rfl rfl ?_
  refine JC_seq ?_
  refine JC_seq ?_
  refine JC_region ?_
  refine JL_fieldAddr fo35_0 rfl ?_
  refine JL_load 0 ty4 rfl rfl rfl ?_
  rw [hsg]
  refine JL_done_up 24 [box _ _ [_, _, _]] [_, _, _, _, _] rfl rfl (by simp only [nrmF]; rfl) rfl rfl ?_
  refine JC_cutT ((ByteArray)) (fun (s : ByteArray) => s = (bif sg then ⟨#[45]⟩ ++ dig q1.num.natAbs else dig q1.num.natAbs) ∧ s.size ≤ 20) (fun u (s : ByteArray) => [none, none, none, some (.string s), none, none, none, none, none, none, none, none, some (u 12), some (u 13), none, none, none, none, none, none, none, none, none, none]) (fun (s : ByteArray) => [none]) (fun (s : ByteArray) => []) ?_ ?_
  · refine JC_cond rfl (fun hb => ?_) (fun hb => ?_)
    · have h11 := hb
      refine JC_region ?_
      refine JL_move rfl ?_
      refine JL_addS rfl rfl (by show 1 + (dig q1.num.natAbs).size ≤ _; omega) ?_
      refine JL_assign rfl ?_
      refine JL_nil_up 24 [box _ _ [_, _, _]] [_, _, _, _, _] rfl rfl (by simp only [nrmF]; rfl) rfl rfl ?_
      refine JE_midS (⟨#[45]⟩ ++ dig q1.num.natAbs) (by kernel_rfl) ?_ (by kernel_rfl) ?_
      · exact ⟨by rw [h11]; rfl, by rw [ByteArray.size_append]; show 1 + _ ≤ 20; omega⟩
      · exact subset_app subset_nil ss0
    · have h11 := hb
      refine JC_skip ?_
      refine JE_midS (dig q1.num.natAbs) (by kernel_rfl) ?_ (by kernel_rfl) ?_
      · exact ⟨by rw [h11]; rfl, by omega⟩
      · exact subset_app subset_nil ss0
  intro u s hC
  obtain ⟨hse, hsz⟩ := hC
  refine JC_norm ⟨24, [], [_, _, _, _, _, _, _, _, _, _, _, _, _, _, _, _, _, _, _, _, _, _, _, _]⟩ [box _ _ [_, _, _]] [_, _, _, _, _] rfl rfl rfl ?_
  refine JC_seq ?_
  refine JC_seq ?_
  refine JC_region ?_
  refine JL_fieldAddr fo35_2 rfl ?_
  refine JL_loadA (vs := [_]) 0 ty33 rfl rfl ⟨rfl, trivial⟩ ?_
  refine JL_callF' (Asks.cons (holds_of_mem (by repeat (first | with_reducible exact mm0 | refine mmS ?_))) (Asks.cons (holds_of_mem (by repeat (first | with_reducible exact mm0 | refine mmS ?_))) Asks.nil)) (ntextT_con (NIn.den hq1) hd0 hd) rfl ca54 ⟨rfl, rfl⟩ ?_
  rintro _ _ ⟨rfl, rfl⟩
  refine JL_assign rfl ?_
  refine JL_done_up 24 [box _ _ [_, _, _]] [_, _, _, _, _] rfl rfl (by simp only [nrmF]; rfl) rfl rfl ?_
  refine JC_seq ?_
  refine JC_region ?_
  refine JL_move rfl ?_
  refine JL_neqS rfl rfl ?_
  refine JL_splitV (fun h18 => ?_) (fun h18 => ?_)
  · refine JL_done_up 24 [box _ _ [_, _, _]] [_, _, _, _, _] rfl rfl (by simp only [nrmF]; rfl) rfl rfl ?_
    refine JC_true rfl ?_
    refine JC_region ?_
    refine JL_move rfl ?_
    refine JL_move rfl ?_
    refine JL_addS rfl rfl (by show 1 + (dig q1.den).size ≤ _; omega) ?_
    refine JL_addS rfl rfl (by rw [ByteArray.size_append]; show s.size + (1 + (dig q1.den).size) ≤ _; omega) ?_
    refine JL_assign rfl ?_
    refine JL_done_up 24 [box _ _ [_, _, _]] [_, _, _, _, _] rfl rfl (by simp only [nrmF]; rfl) rfl rfl ?_
    refine JC_seq ?_
    refine JC_region ?_
    refine JL_move rfl ?_
    refine JL_assign rfl ?_
    refine JL_done_up 24 [box _ _ [_, _, _]] [_, _, _, _, _] rfl rfl (by simp only [nrmF]; rfl) rfl rfl ?_
    refine JC_ret ?_
    have hbf : b = false := by rw [hb] at h18; simpa using h18
    subst hbf
    subst hse
    refine JE_ret (vs := [_]) [] Tryd.results29 ⟨rfl, rfl⟩ ?_ ?_
    · exact ⟨rfl, rfl⟩
    · exact all_nil
  · refine JL_done_up 24 [box _ _ [_, _, _]] [_, _, _, _, _] rfl rfl (by simp only [nrmF]; rfl) rfl rfl ?_
    refine JC_false rfl ?_
    refine JC_skip ?_
    refine JE_then ?_
    refine JC_seq ?_
    refine JC_region ?_
    refine JL_move rfl ?_
    refine JL_assign rfl ?_
    refine JL_done_up 24 [box _ _ [_, _, _]] [_, _, _, _, _] rfl rfl (by simp only [nrmF]; rfl) rfl rfl ?_
    refine JC_ret ?_
    have hbt : b = true := by rw [hb] at h18; simpa using h18
    subst hbt
    subst hse
    refine JE_ret (vs := [_]) [] Tryd.results29 ⟨rfl, rfl⟩ ?_ ?_
    · exact ⟨rfl, rfl⟩
    · exact all_nil

end Go.Fw.K
