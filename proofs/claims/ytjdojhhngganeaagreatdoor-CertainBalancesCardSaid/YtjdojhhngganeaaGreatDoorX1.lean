/- Walks through functions of the given program: each meets its contract. (Printed by a program of this repo.) -/
import Derived.Test.YtjdojhhngganeaaGreatDoorF
import Derived.Test.YtjdojhhngganeaaGreatDoorTxt
import Derived.Test.YtjdojhhngganeaaGreatDoorProg
namespace Go.Fw.X1
open Go Go.RowKit Go.Proofs Go.Nat9 Go.Fw
attribute [local irreducible] JC JL JE
theorem ca60 : callable Tryz.prog 60 = true := by kernel_rfl
theorem ca72 : callable Tryz.prog 72 = true := by kernel_rfl
theorem ca84 : callable Tryz.prog 84 = true := by kernel_rfl
theorem ca97 : callable Tryz.prog 97 = true := by kernel_rfl
theorem fo36_0 : fOf Tryz.prog 36 0 = some 0 := by kernel_rfl
theorem fo36_1 : fOf Tryz.prog 36 1 = some 1 := by kernel_rfl
theorem fo36_2 : fOf Tryz.prog 36 2 = some 2 := by kernel_rfl
theorem it110 : intTy Tryz.prog 110 = some .u64 := by kernel_rfl
theorem sl32 : slOf Tryz.prog 32 = some (94, 1, 4, [.int .u32 0]) := by kernel_rfl
theorem ty34 : tyOf Tryz.prog 34 = some (true, 1) := by kernel_rfl
theorem ty36 : tyOf Tryz.prog 36 = some (true, 3) := by kernel_rfl
theorem ty4 : tyOf Tryz.prog 4 = some (false, 1) := by kernel_rfl
theorem ty94 : tyOf Tryz.prog 94 = some (false, 1) := by kernel_rfl
theorem us94 : (Tryz.prog.underlying 94).isSome = true := by kernel_rfl
theorem z121 : zeroOf Tryz.prog 121 = some [.pointer none, .slice none 0 0] := by kernel_rfl
end Go.Fw.X1
namespace Go.Fw.K
open Go Go.RowKit Go.Proofs Go.Nat9 Go.Fw Go.Fw.X1
attribute [local irreducible] JC JL JE

theorem ntext_con {x : Nat} {s : ByteArray} {ad1 : Option Addr} {n1 c1 : Nat} {L1 : List Nat} (g1 : NIn n1 L1 x 100) (ht : TxtAt x s) :
    ConF Tryz.prog 72 [.agg #[.slice ad1 n1 c1]] [vCells ad1 (u32s L1)]
      (fun v φo => v = .string s ∧ φo = []) := by
  obtain ⟨hx0, hx, hf, h0, hs⟩ := ht
  have hlen := limbs_one hx0 hx
  obtain ⟨_, hL⟩ := limbsOf_single (n := x) hlen; refine ConF_of Tryz.func72 rfl 38 _ rfl rfl ?_; intro w0; refine JC_norm ⟨38, [], [_, _, _, _, _, _, _, _, _, _, _, _, _, _, _, _, _, _, _, _, _, _, _, _, _, _, _, _, _, _, _, _, _, _, _, _, _, _]⟩ [] [_] rfl rfl rfl ?_; refine JC_sr ?_; refine JL_box rfl rfl (fun b1 => ?_); refine JL_assign rfl ?_; refine JL_du 38 [box _ _ [_]] [_] ?_; refine JC_sr ?_; refine JL_loadA (vs := [_]) 0 ty34 rfl rfl ⟨rfl, trivial⟩ ?_; refine JL_callF' (Asks.cons (holds_of_mem am) Asks.nil) (limbs_con _ _ _ _ _ (g1.mono (by omega))) rfl ca84 ⟨rfl, rfl⟩ ?_; rintro _ _ ⟨ad8, cap8, rfl, hk8, hm8, rfl⟩; refine JL_assign rfl ?_; refine JL_du 38 [box _ _ [_]] [_, _] ?_; refine JC_seq ?_; refine JC_sr ?_; refine JL_m ?_; refine JL_len sl32 rfl ?_; refine JL_eql rfl rfl ?_; refine JL_split (fun h11 => ?_) (fun h11 => ?_)
  · exact absurd h11 (by omega)
  · refine JL_du 38 [box _ _ [_]] [_, _] ?_; refine JC_false rfl ?_; refine JC_skip ?_; refine JE_then ?_; refine JC_seq ?_; refine JC_rebase (fun w1 hb hle hR => ?_)
    have hRd : ∀ σ2 φ2, Reads w1 σ2 φ2 ad8 (u32s (limbsOf x)) := fun σ2 φ2 w st => ⟨_, hR _ List.mem_cons_self σ2 φ2 w st⟩
    refine JC_region ?_; refine JL_alloc z121 (fun b4 => ?_); refine JL_du 38 [box _ _ [_, _]] [] ?_; refine JC_seq ?_; refine JC_sr ?_; refine JL_m ?_; refine JL_len sl32 rfl ?_; refine JL_sub_to rfl rfl (IntWalk.i64_in _ (by omega)) ?_; rw [show (((limbsOf x).length : Int) - 1 : Int) = ((1 : Nat) : Int) - 1 from by omega]; refine JL_assign rfl ?_; refine JL_du 38 [box _ _ [_, _]] [] ?_; refine JC_block ?_; refine JC_addNil 5 1 ?_; refine JC_norm ⟨38, [], [_, _, _, _, _, _, _, _, _, _, _, _, _, _, _, _, _, _, _, _, _, _, _, _, _, _, _, _, _, _, _, _, _, _, _, _, _, _]⟩ [box _ _ [_, _], osl _ _ _ _ _ _] [] rfl rfl rfl ?_
    refine JC_loopS ((Nat) × (Value) × (Option Addr) × (Nat) × (Nat) × (List Value)) (fun (k, pa, ad, m, cap, cs) => TxtI b4 s k pa ad m cap cs) (fun (k, pa, ad, m, cap, cs) => k) (fun u (k, pa, ad, m, cap, cs) => [none, none, none, none, none, some (.int .i64 ((k : Nat) - 1)), some (u 6), none, none, none, none, none, none, none, none, some (u 15), some (u 16), some (u 17), some (u 18), some (u 19), some (u 20), some (u 21), some (u 22), some (u 23), some (u 24), some (u 25), some (u 26), some (u 27), some (u 28), some (u 29), some (u 30), some (u 31), some (u 32), some (u 33), some (u 34), some (u 35), some (u 36), none]) (fun (k, pa, ad, m, cap, cs) => [some (box b4 121 [pa, .slice ad m cap]), some (osl ad m cap 5 1 cs)]) (fun (k, pa, ad, m, cap, cs) => []) (1, .pointer none, none, 0, 0, []) (by kernel_rfl) ?_ (by kernel_rfl) ?_ ?_
    · exact .inl ⟨rfl, rfl, rfl, rfl, rfl, rfl⟩
    · exact subset_nil
    intro u i hI; obtain ⟨k, pa, ad, m, cap, cs⟩ := i; refine JC_nm 38 [box _ _ [_, _], osl _ _ _ _ _ _] [] ?_; refine JC_seq ?_; refine JC_sr ?_; refine JL_m ?_; refine JL_geq rfl rfl ?_; refine JL_split (fun h16 => ?_) (fun h16 => ?_)
    · obtain ⟨rfl, rfl, rfl, rfl, rfl, rfl⟩ : k = 1 ∧ pa = .pointer none ∧ ad = none ∧ m = 0 ∧ cap = 0 ∧ cs = [] := by
        rcases hI with h | h
        · exact h
        · omega
      refine JL_du 38 [box _ _ [_, _], osl _ _ _ _ _ _] [] ?_; refine JC_true rfl ?_; refine JC_skip ?_; refine JE_then ?_; refine JC_seq ?_; refine JC_block ?_; refine JC_sr ?_; refine JL_m ?_; refine JL_m ?_; refine JL_idx 0 sl32 rfl rfl (by omega) (by omega) (hRd _ _) (by first | (rw [u32s_length]; omega) | (rw [i64s_length]; omega)) ?_; refine JL_loadE ty94 rfl (hRd _ _) (u32s_get (by omega)) ?_; rw [show (limbsOf x).getD 0 0 = x from by rw [hL]; rfl]; refine JL_convInt us94 it110 rfl (IntWalk.u64_in _ (by omega)) ?_; refine JL_callF' Asks.nil (fmt_con hf) rfl ca97 ⟨rfl, rfl, rfl⟩ ?_; rintro _ _ ⟨rfl, rfl⟩; refine JL_assign rfl ?_; refine JL_du 38 [box _ _ [_, _], osl _ _ _ _ _ _] [] ?_; refine JC_seq ?_; refine JC_sr ?_; refine JL_m ?_; refine JL_m ?_; refine JL_len sl32 rfl ?_; refine JL_sub_to rfl rfl (IntWalk.i64_in _ (by omega)) ?_; refine JL_lss rfl rfl ?_; refine JL_split (fun h29 => ?_) (fun h29 => ?_)
      · exact absurd h29 (by omega)
      · refine JL_du 38 [box _ _ [_, _], osl _ _ _ _ _ _] [] ?_; refine JC_false rfl ?_; refine JC_skip ?_; refine JE_then ?_; refine JC_region ?_; refine JL_m ?_; refine JL_bwrite rfl (by kernel_rfl) ⟨rfl, rfl, rfl⟩ h0 hs (fun ad36 cap36 => ?_); refine JL_nu 38 [box _ _ [_, _], osl _ _ _ _ _ _] [] ?_; refine JE_block_normal ?_; refine JE_then ?_; refine JC_region ?_; refine JL_m ?_; refine JL_sub_to rfl rfl (IntWalk.i64_in _ (by omega)) ?_; rw [show (((1 : Nat) : Int) - 1 - 1 : Int) = ((0 : Nat) : Int) - 1 from by omega]; refine JL_assign rfl ?_; refine JL_nu 38 [box _ _ [_, _], osl _ _ _ _ _ _] [] ?_; refine JE_nextS (0, .pointer (some ⟨b4, 0, none⟩), ad36, s.size, cap36, Lib.strCells s) (by kernel_rfl) ?_ ?_ (by kernel_rfl) ?_
        · exact .inr ⟨rfl, rfl, rfl, rfl⟩
        · first | omega | (dsimp only; omega)
        · exact subset_app subset_nil ss0
    · obtain ⟨rfl, rfl, rfl, rfl⟩ : k = 0 ∧ pa = .pointer (some ⟨b4, 0, none⟩) ∧ m = s.size ∧ cs = Lib.strCells s := by
        rcases hI with h | h
        · omega
        · exact h
      refine JL_du 38 [box _ _ [_, _], osl _ _ _ _ _ _] [] ?_; refine JC_false rfl ?_; refine JC_exit ?_; refine JE_then_exit ?_; refine JE_nextS_exit ?_; refine JE_block_exit ?_; refine JE_then ?_; refine JC_sr ?_; refine JL_bstring rfl (by kernel_rfl) ⟨rfl, rfl⟩ h0 ?_; refine JL_assign rfl ?_; refine JL_du 38 [] [] ?_; refine JC_ret ?_; refine JE_retB (vs := [_]) hb hle Tryz.results72 ⟨rfl, rfl⟩ ?_; exact ⟨rfl, rfl⟩

theorem ftext_con {s1 : Bool} {ad1 : Option Addr} {n1 c1 : Nat} {L1 : List Nat} {be1 : Option Addr} {m1 e1 : Nat} {M1 : List Nat} {q1 : Rat} (g1 : FIn s1 n1 L1 m1 M1 q1 90) (hq : fneg (some q1) = false) {s t : ByteArray} (hs : TxtAt q1.num.natAbs s) (ht : TxtAt q1.den t) (b : Bool) (hb : (t.toList == (⟨#[49]⟩ : ByteArray).toList) = b) :
    ConF Tryz.prog 39 [.agg #[.bool s1, .slice ad1 n1 c1, .slice be1 m1 e1]] [vCells ad1 (u32s L1), vCells be1 (u32s M1)]
      (fun v φo => v = .string (bif b then s else s ++ (⟨#[47]⟩ ++ t)) ∧ φo = []) := by
  have hq1 := g1.qs.mono (b := 100) (by decide)
  have hs1 := hs.2.2.2.2
  have ht1 := ht.2.2.2.2
  refine ConF_of Tryz.func39 rfl 24 _ rfl rfl ?_; intro w0; refine JC_norm ⟨24, [], [_, _, _, _, _, _, _, _, _, _, _, _, _, _, _, _, _, _, _, _, _, _, _, _]⟩ [] [_, _] rfl rfl rfl ?_; refine JC_sr ?_; refine JL_box rfl rfl (fun b1 => ?_); refine JL_assign rfl ?_; refine JL_du 24 [box _ _ [_, _, _]] [_, _] ?_; refine JC_sr ?_; refine JL_loadA (vs := [_, _, _]) 0 ty36 rfl rfl ⟨rfl, rfl, rfl, trivial⟩ ?_; refine JL_callF' (Asks.cons (holds_of_mem am) (Asks.cons (holds_of_mem am) Asks.nil)) (fnorm_con (g1.mono (by omega))) rfl ca60 ⟨rfl, rfl⟩ ?_; rintro _ _ ⟨ad6, cp6, be6, ce6, rfl, rfl⟩; refine JL_store (vs := [_, _, _]) 0 ty36 rfl rfl rfl (AllOne.cons rfl (AllOne.cons rfl (AllOne.cons rfl AllOne.nil))) rfl (Nat.le_of_ble_eq_true rfl) ?_; refine JL_du 24 [box _ _ [_, _, _]] [_, _, _, _] ?_; refine JC_sr ?_; refine JL_fieldAddr fo36_1 rfl ?_; refine JL_loadA (vs := [_]) 0 ty34 rfl rfl ⟨rfl, trivial⟩ ?_; refine JL_callF' (Asks.cons (holds_of_mem am) Asks.nil) (ntext_con (NIn.num hq1) hs) rfl ca72 ⟨rfl, rfl⟩ ?_; rintro _ _ ⟨rfl, rfl⟩; refine JL_assign rfl ?_; refine JL_du 24 [box _ _ [_, _, _]] [_, _, _, _] ?_
  refine JC_seq ?_; refine JC_sr ?_; refine JL_fieldAddr fo36_0 rfl ?_; refine JL_load 0 ty4 rfl rfl rfl ?_; rw [hq]; refine JL_du 24 [box _ _ [_, _, _]] [_, _, _, _] ?_; refine JC_false rfl ?_; refine JC_skip ?_; refine JE_then ?_; refine JC_seq ?_; refine JC_sr ?_; refine JL_fieldAddr fo36_2 rfl ?_; refine JL_loadA (vs := [_]) 0 ty34 rfl rfl ⟨rfl, trivial⟩ ?_; refine JL_callF' (Asks.cons (holds_of_mem am) Asks.nil) (ntext_con (NIn.den hq1) ht) rfl ca72 ⟨rfl, rfl⟩ ?_; rintro _ _ ⟨rfl, rfl⟩; refine JL_assign rfl ?_; refine JL_du 24 [box _ _ [_, _, _]] [_, _, _, _] ?_; refine JC_sr ?_; refine JL_m ?_; refine JL_neqS rfl rfl ?_; refine JL_splitV (fun h18 => ?_) (fun h18 => ?_)
  · refine JL_du 24 [box _ _ [_, _, _]] [_, _, _, _] ?_; refine JC_true rfl ?_; refine JC_region ?_; refine JL_m ?_; refine JL_m ?_; refine JL_addS rfl rfl (by show 1 + t.size ≤ _; omega) ?_; refine JL_addS rfl rfl (by rw [ByteArray.size_append]; show s.size + (1 + t.size) ≤ _; omega) ?_; refine JL_assign rfl ?_; refine JL_du 24 [box _ _ [_, _, _]] [_, _, _, _] ?_; refine JC_sr ?_; refine JL_m ?_; refine JL_assign rfl ?_; refine JL_du 24 [box _ _ [_, _, _]] [_, _, _, _] ?_; refine JC_ret ?_
    have hbf : b = false := by rw [hb] at h18; simpa using h18
    subst hbf; refine JE_ret (vs := [_]) [] Tryz.results39 ⟨rfl, rfl⟩ ?_ ?_
    · exact ⟨rfl, rfl⟩
    · exact all_nil
  · refine JL_du 24 [box _ _ [_, _, _]] [_, _, _, _] ?_; refine JC_false rfl ?_; refine JC_skip ?_; refine JE_then ?_; refine JC_sr ?_; refine JL_m ?_; refine JL_assign rfl ?_; refine JL_du 24 [box _ _ [_, _, _]] [_, _, _, _] ?_; refine JC_ret ?_
    have hbt : b = true := by rw [hb] at h18; simpa using h18
    subst hbt; refine JE_ret (vs := [_]) [] Tryz.results39 ⟨rfl, rfl⟩ ?_ ?_
    · exact ⟨rfl, rfl⟩
    · exact all_nil

end Go.Fw.K
