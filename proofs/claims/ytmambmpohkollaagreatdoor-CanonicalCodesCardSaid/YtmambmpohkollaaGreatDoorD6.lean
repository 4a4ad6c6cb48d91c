/- Walks through functions of the given program: each meets its contract. (Printed by a program of this repo.) -/
import Derived.Test.YtmambmpohkollaaGreatDoorD4
import Derived.Test.YtmambmpohkollaaGreatDoorCnTY
import Derived.Test.YtmambmpohkollaaGreatDoorFwBs
import Derived.Test.YtmambmpohkollaaGreatDoorProg
namespace Go.Fw.D6
open Go Go.RowKit Go.Proofs Go.Nat9 Go.Fw
attribute [local irreducible] JC JL JE
theorem ca13 : callable Tryz.prog 13 = true := by kernel_rfl
theorem ca42 : callable Tryz.prog 42 = true := by kernel_rfl
theorem it5 : intTy Tryz.prog 5 = some .u8 := by kernel_rfl
theorem mixed : Tryz.prog.follows .mixedOrders = true := by kernel_rfl
theorem sl22 : slOf Tryz.prog 22 = some (3, 1, 8, [.int .i64 0]) := by kernel_rfl
theorem sl75 : slOf Tryz.prog 75 = some (5, 1, 1, [.int .u8 0]) := by kernel_rfl
theorem ty25 : tyOf Tryz.prog 25 = some (true, 3) := by kernel_rfl
theorem ty3 : tyOf Tryz.prog 3 = some (false, 1) := by kernel_rfl
theorem us3 : (Tryz.prog.underlying 3).isSome = true := by kernel_rfl
theorem usl75 : Tryz.prog.underlying 75 = some (.slice 5) := by kernel_rfl
theorem ustr9 : Tryz.prog.underlying 9 = some .string := by kernel_rfl
theorem uu8 : Tryz.prog.underlying 5 = some (.int .u8) := by kernel_rfl
end Go.Fw.D6
namespace Go.Fw.K
open Go Go.RowKit Go.Proofs Go.Nat9 Go.Fw Go.Fw.D6
attribute [local irreducible] JC JL JE

open Go.Fw.Cn
theorem dec1_con {n : Nat} (hn : n < 10) :
    ConF Tryz.prog 42 [.int .i64 (n : Nat)] []
      (fun v φo => v = .string (bs (dd n)) ∧ φo = []) := by
 refine ConF_of Tryz.func42 rfl 18 (_ :: rp 17) rfl rfl ?_; intro w0; refine JC_st [] [] ?_; refine JC_sr ?_; refine JL_a ?_; refine JL_dv 18 ?_; refine JC_sr ?_; refine JL_m ?_; refine JL_rem_to rfl rfl om (IntWalk.rem_in _ _ om) ?_; rw [show (((n : Nat) : Int) % 10 : Int) = ((n % 10 : Nat) : Int) from rfl]; refine JL_add_to rfl rfl i6o ?_; refine JL_convInt us3 it5 rfl (IntWalk.u8_in _ om) ?_; refine JL_build1 sl75 rfl rfl (fun g8 => ?_); refine JL_toStr1 usl75 uu8 ustr9 rfl (Reads.own 0 rfl) ?_; rw [dgB]; refine JL_a ?_; refine JL_du 18 [osl _ _ _ _ _ _] [] ?_; refine JC_seq ?_; refine JC_sr ?_; refine JL_m ?_; refine JL_lss rfl rfl ?_; refine JL_split (fun h11 => ?_) (fun h11 => ?_)
 ·refine JL_dv 18 ?_; refine JC_true rfl ?_; refine JC_sr ?_; refine JL_m ?_; refine JL_a ?_; refine JL_dv 18 ?_; refine JC_ret ?_; refine JE_then_ret ?_; refine JE_ret (vs := [_]) [] Tryz.results42 ⟨rfl, rfl⟩ ?_ ?_
  · rw [dd_one hn]; exact ⟨rfl, rfl⟩
  · exact all_nil
 · exact absurd om h11

theorem dec2_con {n : Nat} (h1 : 10 ≤ n) (hn : n < 100) :
    ConF Tryz.prog 42 [.int .i64 (n : Nat)] []
      (fun v φo => v = .string (bs (dd n)) ∧ φo = []) := by
 refine ConF_of Tryz.func42 rfl 18 (_ :: rp 17) rfl rfl ?_; intro w0; refine JC_st [] [] ?_; refine JC_sr ?_; refine JL_a ?_; refine JL_dv 18 ?_; refine JC_sr ?_; refine JL_m ?_; refine JL_rem_to rfl rfl om (IntWalk.rem_in _ _ om) ?_; rw [show (((n : Nat) : Int) % 10 : Int) = ((n % 10 : Nat) : Int) from rfl]; refine JL_add_to rfl rfl i6o ?_; refine JL_convInt us3 it5 rfl (IntWalk.u8_in _ om) ?_; refine JL_build1 sl75 rfl rfl (fun g8 => ?_); refine JL_toStr1 usl75 uu8 ustr9 rfl (Reads.own 0 rfl) ?_; rw [dgB]; refine JL_a ?_; refine JL_du 18 [osl _ _ _ _ _ _] [] ?_; refine JC_seq ?_; refine JC_sr ?_; refine JL_m ?_; refine JL_lss rfl rfl ?_; refine JL_split (fun h11 => ?_) (fun h11 => ?_)
 · exact absurd h11 om
 ·refine JL_dv 18 ?_; refine JC_false rfl ?_; refine JC_skip ?_; refine JE_then ?_; refine JC_sr ?_; refine JL_m ?_; refine JL_quo_to rfl rfl om (IntWalk.i64_quo _ _ om) ?_; rw [show (((n : Nat) : Int) / 10 : Int) = ((n / 10 : Nat) : Int) from rfl]; refine JL_callF' Asks.nil (dec1_con (n := n / 10) om) rfl ca42 ⟨rfl, rfl⟩ ?_; rintro _ _ ⟨rfl, rfl⟩; refine JL_m ?_; refine JL_addS rfl rfl (by rw [bs_size, bs_size]; have := dd_len (n := n / 10) om; simp only [List.length_cons, List.length_nil]; omega) ?_; rw [bs_app, ← dd_two h1 hn]; refine JL_a ?_; refine JL_du 18 [osl _ _ _ _ _ _] [] ?_; refine JC_ret ?_; refine JE_ret (vs := [_]) [] Tryz.results42 ⟨rfl, rfl⟩ ?_ ?_
  · exact ⟨rfl, rfl⟩
  · exact all_nil

theorem dec_con {n : Nat} (hn : n < 100) : ConF Tryz.prog 42 [.int .i64 (n : Nat)] [] (fun v φo => v = .string (bs (dd n)) ∧ φo = []) :=
  if h : n < 10 then dec1_con h else dec2_con om hn

set_option maxHeartbeats 4000000 in
theorem rname_con {a1 a2 a3 : Option Addr} {c1 c2 c3 : Nat} {O R : List Int} {K : List Cn.Lk} (hO : O.length ≤ 1000) (hR : R.length ≤ 1000) (hK : K.length ≤ 1000) :
    ConF Tryz.prog 14 [.agg #[.slice a1 O.length c1, .slice a2 R.length c2, .slice a3 K.length c3]] [vCells a1 (i64s O), vCells a2 (i64s R), vCells a3 (lks K)]
      (fun v φo => ∃ T : List UInt8, v = .tuple #[.string (bs T), .int .i64 (errG O R K)] ∧ φo = [] ∧ (errG O R K = 0 → ∃ B, IsCode (matG O R K) R.length B ∧ T = nameT O.length R.length (B.drop 2)) ∧ (errG O R K ≠ 0 → T = [])) := by
 refine ConF_of Tryz.func14 rfl 68 (_ :: rp 67) rfl rfl ?_; intro w0; refine JC_st [] [_, _, _] ?_; refine JC_sr ?_; refine JL_box rfl rfl (fun b1 => ?_); refine JL_a ?_; refine JL_a ?_; refine JL_du 68 [box _ _ [_, _, _]] [_, _, _] ?_; refine JC_sr ?_; refine JL_loadA (vs := [_, _, _]) 0 ty25 rfl rfl ⟨rfl, rfl, rfl, trivial⟩ ?_; refine JL_callF' (Asks.cons (holds_of_mem am) (Asks.cons (holds_of_mem am) (Asks.cons (holds_of_mem am) Asks.nil))) (rcode_con hO hR hK) rfl ca13 ⟨rfl, rfl⟩ ?_; rintro _ _ ⟨ad10, c10, B10, rfl, rfl, hB10, hN10⟩; refine JL_m ?_; refine JL_extract (v := .slice ad10 B10.length c10) rfl rfl ?_; refine JL_extract (v := .int .i64 (errG O R K)) rfl rfl ?_; refine JL_a ?_; refine JL_a ?_; refine JL_du 68 [box _ _ [_, _, _]] [_, _, _, _] ?_; refine JC_seq ?_; refine JC_sr ?_; refine JL_m ?_; refine JL_neq rfl rfl ?_; refine JL_split (fun h14 => ?_) (fun h14 => ?_)
 ·refine JL_dv 68 ?_; refine JC_true rfl ?_; refine JC_sr ?_; refine JL_m ?_; refine JL_a ?_; refine JL_a ?_; refine JL_dv 68 ?_; refine JC_ret ?_; refine JE_then_ret ?_; refine JE_ret (vs := [_, _]) [] Tryz.results14 ⟨rfl, rfl, rfl⟩ ?_ ?_
  · exact ⟨[], rfl, rfl, fun h => absurd h h14, fun _ => rfl⟩
  · exact all_nil
 ·refine JL_dv 68 ?_; refine JC_false rfl ?_; refine JC_skip ?_; refine JE_then ?_; refine JC_seq ?_
  have he0 : errG O R K = 0 := Classical.not_not.1 h14
  obtain ⟨hv, hO6, hR6⟩ := errG_0.1 he0; obtain ⟨hok, hB0, hB1, hBl⟩ := code_okE hv.2.2.1 (hB10 he0)
  have hBL : B10.length = O.length * R.length + 2 := by have h := (hB10 he0).len; rwa [matG_len] at h
  have hOR : O.length * R.length ≤ 6 * 6 := Nat.mul_le_mul hO6 hR6
  have hd1 := dd_len (n := O.length) om
  have hd2 := dd_len (n := R.length) om
  refine JC_drawT mixed 9 [spV 16 [] _, spV 17 [0] _, spV 18 [1] _, spC 19 [2] _, spC 20 [3] (fun v φo => v = .string (bs (dd O.length ++ [120])) ∧ φo = []), spV 21 [] _, spV 22 [5] _, spV 23 [6] _, spC 24 [7] _] ⟨oM, OblS_V (fun vals ex ψ => (by refine JL_normQ _ (_ :: _ :: _ :: _ :: ψ) rfl rfl ?_; refine JL_idx 0 sl22 rfl rfl rfl om rdg lno ?_; exact vz rfl)), OblS_V (fun vals ex ψ => (by refine JL_normQ _ (_ :: _ :: _ :: _ :: ψ) rfl rfl ?_; refine JL_loadE ty3 rfl rdg (by rw [i64s_get om, hB0]) ?_; exact vz rfl)), OblS_C (fun vals ex ψ => (by refine JL_normQ ⟨68, [(16, _), (17, _), (18, _), (19, _), (20, _), (21, _), (22, _), (23, _), (24, _)], _⟩ (_ :: _ :: _ :: _ :: ψ) rfl rfl ?_; refine JL_callF' Asks.nil (dec_con (n := O.length) om) rfl ca42 ⟨rfl, rfl⟩ ?_; exact fun v φo hP => JL_nil (JE_stepC φo rfl hP (fun p hp => mapB_l hp) (fun p hp => mapB_r (ss0 p hp))))), OblS_C (fun vals ex ψ => (by
    refine JL_normQ ⟨68, [(16, _), (17, _), (18, _), (19, _), (20, _), (21, _), (22, _), (23, _), (24, _)], _⟩ (_ :: _ :: _ :: _ :: _ :: ψ) rfl rfl ?_; generalize vals 3 = x19; refine JL_usePost mm0 (fun φo hP => ?_); obtain ⟨rfl, rfl⟩ := hP; refine JL_norm _ _ (_ :: _ :: _ :: _ :: _ :: ψ) rfl rfl rfl ?_; refine JL_addS (b := bs [120]) rfl rfl (by rw [bs_size, bs_size]; (try simp only [lenS]); omega) ?_
    try rw [bs_app]
    exact JL_nil (JE_stepC [] rfl ⟨rfl, rfl⟩ all_nil ss0))), oM, OblS_V (fun vals ex ψ => (by refine JL_normQ _ (_ :: _ :: _ :: _ :: ψ) rfl rfl ?_; refine JL_idx 1 sl22 rfl rfl rfl om rdg lno ?_; exact vz rfl)), OblS_V (fun vals ex ψ => (by refine JL_normQ _ (_ :: _ :: _ :: _ :: ψ) rfl rfl ?_; refine JL_loadE ty3 rfl rdg (by rw [i64s_get om, hB1]) ?_; exact vz rfl)), OblS_C (fun vals ex ψ => (by refine JL_normQ ⟨68, [(16, _), (17, _), (18, _), (19, _), (20, _), (21, _), (22, _), (23, _), (24, _)], _⟩ (_ :: _ :: _ :: _ :: ψ) rfl rfl ?_; refine JL_callF' Asks.nil (dec_con (n := R.length) om) rfl ca42 ⟨rfl, rfl⟩ ?_; exact fun v φo hP => JL_nil (JE_stepC φo rfl hP (fun p hp => mapB_l hp) (fun p hp => mapB_r (ss0 p hp))))), trivial⟩ kr (fun vals bs => ?_)
  refine JL_normL [_, _, _] ⟨68, [(16, _), (17, _), (18, _), (19, _), (20, _), (21, _), (22, _), (23, _), (24, _)], _⟩ [box _ _ [_, _, _]] [_, _, _, _, _, _, _] rfl rfl rfl rfl ?_; generalize vals (0 + 1 + 1 + 1) = x19; generalize vals (0 + 1 + 1 + 1 + 1) = x20; generalize vals (0 + 1 + 1 + 1 + 1 + 1 + 1 + 1 + 1) = x24; refine JL_usePost (mmS mm0) (fun φo hP => ?_); obtain ⟨rfl, rfl⟩ := hP; refine JL_norm _ [box _ _ [_, _, _]] [_, _, _, _, _, _, _] rfl rfl rfl ?_
  try rw [bs_app]
  refine JL_usePost (mmS (mmS mm0)) (fun φo hP => ?_); obtain ⟨rfl, rfl⟩ := hP; refine JL_norm _ [box _ _ [_, _, _]] [_, _, _, _, _, _, _] rfl rfl rfl ?_; refine JL_addS rfl rfl (by rw [bs_size, bs_size]; (try simp only [lenS]); omega) ?_; rw [bs_app]; refine JL_addS (b := Cn.bs [58]) rfl rfl (by rw [bs_size, bs_size]; (try simp only [lenS]); omega) ?_; rw [bs_app, show dd O.length ++ [120] ++ dd R.length ++ [58] = nmI O.length R.length (B10.drop 2) 0 from (nmI_zero _ _ _).symm]; refine JL_a ?_; refine JL_du 68 [box _ _ [_, _, _]] [_, _, _, _, _, _, _] ?_; refine JC_seq ?_; refine JC_sr ?_; refine JL_a ?_; refine JL_dv 68 ?_; refine JC_block ?_; refine JC_loopS ((Nat)) (fun (e : Nat) => e ≤ O.length * R.length) (fun (e : Nat) => O.length * R.length - e) (fun u (e : Nat) => (rn 6 (some (.string (Cn.bs (nmI O.length R.length (B10.drop 2) e))) :: some (.int .i64 ((e + 2 : Nat) : Int)) :: rn 19 (sc u 27 40 [])))) (fun (e : Nat) => []) (fun (e : Nat) => []) (0) kr ?_ kr ?_ ?_
  · exact Nat.zero_le _
  · exact subset_nil
  intro u e he; refine JC_nm 68 [box _ _ [_, _, _]] [_, _, _, _, _, _, _] ?_
  have hnl := nmI_len (h := O.length) (w := R.length) (e := e) om om hok (by rw [hBl]; exact he)
  refine JC_seq ?_; refine JC_sr ?_; refine JL_m ?_; refine JL_m ?_; refine JL_len sl22 rfl ?_; refine JL_lss rfl rfl ?_; refine JL_split (fun h30 => ?_) (fun h30 => ?_)
  ·refine JL_dv 68 ?_; refine JC_true rfl ?_; refine JC_skip ?_; refine JE_then ?_; refine JC_seq ?_; refine JC_block ?_; refine JC_seq ?_; refine JC_seq ?_
   have heR : e < O.length * R.length := by omega
   have hR0 : R.length ≠ 0 := fun h => by rw [h, Nat.mul_zero] at heR; omega
   have hdE : (B10.drop 2).getD e 0 = B10.getD (e + 2) 0 := by rw [drop_getI, Nat.add_comm]
   obtain ⟨m, hme, hm2⟩ : ∃ m : Nat, B10.getD (e + 2) 0 = (m : Int) ∧ m < 100 := by have h := hok _ (getI_mem (l := B10.drop 2) (j := e) (by rw [hBl]; exact heR)); rw [hdE] at h; exact ⟨(B10.getD (e + 2) 0).toNat, by omega, by omega⟩
   have hdm := dd_len hm2
   rcases sep3 R.length e with hA | hA | hA
   ·refine JC_region ?_; refine JL_m ?_; refine JL_gtr rfl rfl ?_; rw [decide_eq_false (p := 2 < ((e + 2 : Nat) : Int)) om]; refine JL_m ?_; refine JL_gn ?_; refine JL_gn ?_; refine JL_gn ?_; refine JL_gn ?_; refine JL_gn ?_; refine JL_gn ?_; refine JL_gn ?_; refine JL_pick_f rfl rfl ?_; refine JL_dv 68 ?_; refine JC_false rfl ?_; refine JC_skip ?_; refine JE_then ?_; refine JC_sr ?_; refine JL_m ?_; refine JL_m ?_; refine JL_idx (e + 2) sl22 rfl rfl rfl om rdg lno ?_; refine JL_loadE ty3 rfl rdg (i64s_get om) ?_; rw [hme]; refine JL_gtr rfl rfl ?_; refine JL_split (fun h50 => ?_) (fun h50 => ?_)
    ·refine JL_dv 68 ?_; refine JC_true rfl ?_; refine JC_region ?_; refine JL_m ?_; refine JL_m ?_; refine JL_m ?_; refine JL_idx (e + 2) sl22 rfl rfl rfl om rdg lno ?_; refine JL_loadE ty3 rfl rdg (i64s_get om) ?_; rw [hme]; refine JL_callF' Asks.nil (dec_con (n := m) hm2) rfl ca42 ⟨rfl, rfl⟩ ?_; rintro _ _ ⟨rfl, rfl⟩; refine JL_addS (a := Cn.bs [40]) rfl rfl (by rw [bs_size, bs_size]; (try simp only [lenS]); omega) ?_; rw [bs_app]; refine JL_addS (b := Cn.bs [41]) rfl rfl (by rw [bs_size, bs_size]; (try simp only [lenS]); omega) ?_; rw [bs_app]; refine JL_addS rfl rfl (by rw [bs_size, bs_size]; (try simp only [lenS]); omega) ?_; rw [bs_app, show nmI O.length R.length (B10.drop 2) e ++ ([40] ++ dd m ++ [41]) = nmI O.length R.length (B10.drop 2) (e + 1) from by rw [nmI_step, hA.2, hdE, hme, ent_big h50, Int.toNat_natCast]; all_goals (first | rfl | rw [List.append_nil])]; refine JL_a ?_; refine JL_nu 68 [box _ _ [_, _, _]] [_, _, _, _, _, _, _] ?_; refine JE_block_normal ?_; refine JE_then ?_; refine JC_region ?_
     refine JL_m ?_; refine JL_add_to rfl rfl i6o ?_; refine JL_a ?_; refine JL_nv 68 ?_; refine JE_nextS (e + 1) kr ?_ ?_ kr ?_
     · exact (by omega : e + 1 ≤ O.length * R.length)
     · first | omega | (dsimp only; omega)
     · exact subset_app subset_nil ss0
    ·refine JL_dv 68 ?_; refine JC_false rfl ?_; refine JC_region ?_; refine JL_m ?_; refine JL_m ?_; refine JL_m ?_; refine JL_idx (e + 2) sl22 rfl rfl rfl om rdg lno ?_; refine JL_loadE ty3 rfl rdg (i64s_get om) ?_; rw [hme]; refine JL_callF' Asks.nil (dec_con (n := m) hm2) rfl ca42 ⟨rfl, rfl⟩ ?_; rintro _ _ ⟨rfl, rfl⟩; refine JL_addS rfl rfl (by rw [bs_size, bs_size]; (try simp only [lenS]); omega) ?_; rw [bs_app, show nmI O.length R.length (B10.drop 2) e ++ dd m = nmI O.length R.length (B10.drop 2) (e + 1) from by rw [nmI_step, hA.2, hdE, hme, ent_small h50, Int.toNat_natCast]; all_goals (first | rfl | rw [List.append_nil])]; refine JL_a ?_; refine JL_nu 68 [box _ _ [_, _, _]] [_, _, _, _, _, _, _] ?_; refine JE_block_normal ?_; refine JE_then ?_; refine JC_region ?_; refine JL_m ?_; refine JL_add_to rfl rfl i6o ?_; refine JL_a ?_; refine JL_nv 68 ?_; refine JE_nextS (e + 1) kr ?_ ?_ kr ?_
     · exact (by omega : e + 1 ≤ O.length * R.length)
     · first | omega | (dsimp only; omega)
     · exact subset_app subset_nil ss0
   ·refine JC_region ?_; refine JL_m ?_; refine JL_gtr rfl rfl ?_; rw [decide_eq_true (p := 2 < ((e + 2 : Nat) : Int)) om]; refine JL_m ?_; refine JL_gy ?_; refine JL_m ?_; refine JL_gy ?_; refine JL_sub_to rfl rfl i6o ?_; rw [show (((e + 2 : Nat) : Int) - 2 : Int) = ((e : Nat) : Int) from by omega]; refine JL_gy ?_; refine JL_m ?_; refine JL_gy ?_; refine JL_idx 1 sl22 rfl rfl rfl om rdg lno ?_; refine JL_gy ?_; refine JL_loadE ty3 rfl rdg (by rw [i64s_get om, hB1]) ?_; refine JL_gy ?_; refine JL_rem_to rfl rfl om (IntWalk.rem_in _ _ om) ?_; rw [show (((e : Nat) : Int) % ((R.length : Nat) : Int) : Int) = ((e % R.length : Nat) : Int) from rfl]; refine JL_gy ?_; refine JL_eql rfl rfl ?_; rw [decide_eq_true (p := ((e % R.length : Nat) : Int) = 0) om]; refine JL_pick_t rfl rfl ?_; refine JL_dv 68 ?_; refine JC_true rfl ?_; refine JC_region ?_; refine JL_m ?_; refine JL_addS (b := Cn.bs [47]) rfl rfl (by rw [bs_size, bs_size]; (try simp only [lenS]); omega) ?_
    rw [bs_app]; refine JL_a ?_; refine JL_dv 68 ?_; refine JC_sr ?_; refine JL_m ?_; refine JL_m ?_; refine JL_idx (e + 2) sl22 rfl rfl rfl om rdg lno ?_; refine JL_loadE ty3 rfl rdg (i64s_get om) ?_; rw [hme]; refine JL_gtr rfl rfl ?_; refine JL_split (fun h50 => ?_) (fun h50 => ?_)
    ·refine JL_dv 68 ?_; refine JC_true rfl ?_; refine JC_region ?_; refine JL_m ?_; refine JL_m ?_; refine JL_m ?_; refine JL_idx (e + 2) sl22 rfl rfl rfl om rdg lno ?_; refine JL_loadE ty3 rfl rdg (i64s_get om) ?_; rw [hme]; refine JL_callF' Asks.nil (dec_con (n := m) hm2) rfl ca42 ⟨rfl, rfl⟩ ?_; rintro _ _ ⟨rfl, rfl⟩; refine JL_addS (a := Cn.bs [40]) rfl rfl (by rw [bs_size, bs_size]; (try simp only [lenS]); omega) ?_; rw [bs_app]; refine JL_addS (b := Cn.bs [41]) rfl rfl (by rw [bs_size, bs_size]; (try simp only [lenS]); omega) ?_; rw [bs_app]; refine JL_addS rfl rfl (by rw [bs_size, bs_size]; (try simp only [lenS]); omega) ?_; rw [bs_app, show (nmI O.length R.length (B10.drop 2) e ++ [47]) ++ ([40] ++ dd m ++ [41]) = nmI O.length R.length (B10.drop 2) (e + 1) from by rw [nmI_step, hA.2.2, hdE, hme, ent_big h50, Int.toNat_natCast]; all_goals (first | rfl | rw [List.append_nil])]; refine JL_a ?_; refine JL_nu 68 [box _ _ [_, _, _]] [_, _, _, _, _, _, _] ?_; refine JE_block_normal ?_; refine JE_then ?_
     refine JC_region ?_; refine JL_m ?_; refine JL_add_to rfl rfl i6o ?_; refine JL_a ?_; refine JL_nv 68 ?_; refine JE_nextS (e + 1) kr ?_ ?_ kr ?_
     · exact (by omega : e + 1 ≤ O.length * R.length)
     · first | omega | (dsimp only; omega)
     · exact subset_app subset_nil ss0
    ·refine JL_dv 68 ?_; refine JC_false rfl ?_; refine JC_region ?_; refine JL_m ?_; refine JL_m ?_; refine JL_m ?_; refine JL_idx (e + 2) sl22 rfl rfl rfl om rdg lno ?_; refine JL_loadE ty3 rfl rdg (i64s_get om) ?_; rw [hme]; refine JL_callF' Asks.nil (dec_con (n := m) hm2) rfl ca42 ⟨rfl, rfl⟩ ?_; rintro _ _ ⟨rfl, rfl⟩; refine JL_addS rfl rfl (by rw [bs_size, bs_size]; (try simp only [lenS]); omega) ?_; rw [bs_app, show (nmI O.length R.length (B10.drop 2) e ++ [47]) ++ dd m = nmI O.length R.length (B10.drop 2) (e + 1) from by rw [nmI_step, hA.2.2, hdE, hme, ent_small h50, Int.toNat_natCast]; all_goals (first | rfl | rw [List.append_nil])]; refine JL_a ?_; refine JL_nu 68 [box _ _ [_, _, _]] [_, _, _, _, _, _, _] ?_; refine JE_block_normal ?_; refine JE_then ?_; refine JC_region ?_; refine JL_m ?_; refine JL_add_to rfl rfl i6o ?_; refine JL_a ?_; refine JL_nv 68 ?_; refine JE_nextS (e + 1) kr ?_ ?_ kr ?_
     · exact (by omega : e + 1 ≤ O.length * R.length)
     · first | omega | (dsimp only; omega)
     · exact subset_app subset_nil ss0
   ·refine JC_region ?_; refine JL_m ?_; refine JL_gtr rfl rfl ?_; rw [decide_eq_true (p := 2 < ((e + 2 : Nat) : Int)) om]; refine JL_m ?_; refine JL_gy ?_; refine JL_m ?_; refine JL_gy ?_; refine JL_sub_to rfl rfl i6o ?_; rw [show (((e + 2 : Nat) : Int) - 2 : Int) = ((e : Nat) : Int) from by omega]; refine JL_gy ?_; refine JL_m ?_; refine JL_gy ?_; refine JL_idx 1 sl22 rfl rfl rfl om rdg lno ?_; refine JL_gy ?_; refine JL_loadE ty3 rfl rdg (by rw [i64s_get om, hB1]) ?_; refine JL_gy ?_; refine JL_rem_to rfl rfl om (IntWalk.rem_in _ _ om) ?_; rw [show (((e : Nat) : Int) % ((R.length : Nat) : Int) : Int) = ((e % R.length : Nat) : Int) from rfl]; refine JL_gy ?_; refine JL_eql rfl rfl ?_; rw [decide_eq_false (p := ((e % R.length : Nat) : Int) = 0) om]; refine JL_pick_t rfl rfl ?_; refine JL_dv 68 ?_; refine JC_false rfl ?_; refine JC_skip ?_; refine JE_then ?_; refine JC_sr ?_; refine JL_m ?_; refine JL_m ?_
    refine JL_idx (e + 2) sl22 rfl rfl rfl om rdg lno ?_; refine JL_loadE ty3 rfl rdg (i64s_get om) ?_; rw [hme]; refine JL_gtr rfl rfl ?_; refine JL_split (fun h50 => ?_) (fun h50 => ?_)
    ·refine JL_dv 68 ?_; refine JC_true rfl ?_; refine JC_region ?_; refine JL_m ?_; refine JL_m ?_; refine JL_m ?_; refine JL_idx (e + 2) sl22 rfl rfl rfl om rdg lno ?_; refine JL_loadE ty3 rfl rdg (i64s_get om) ?_; rw [hme]; refine JL_callF' Asks.nil (dec_con (n := m) hm2) rfl ca42 ⟨rfl, rfl⟩ ?_; rintro _ _ ⟨rfl, rfl⟩; refine JL_addS (a := Cn.bs [40]) rfl rfl (by rw [bs_size, bs_size]; (try simp only [lenS]); omega) ?_; rw [bs_app]; refine JL_addS (b := Cn.bs [41]) rfl rfl (by rw [bs_size, bs_size]; (try simp only [lenS]); omega) ?_; rw [bs_app]; refine JL_addS rfl rfl (by rw [bs_size, bs_size]; (try simp only [lenS]); omega) ?_; rw [bs_app, show nmI O.length R.length (B10.drop 2) e ++ ([40] ++ dd m ++ [41]) = nmI O.length R.length (B10.drop 2) (e + 1) from by rw [nmI_step, hA.2.2, hdE, hme, ent_big h50, Int.toNat_natCast]; all_goals (first | rfl | rw [List.append_nil])]; refine JL_a ?_; refine JL_nu 68 [box _ _ [_, _, _]] [_, _, _, _, _, _, _] ?_; refine JE_block_normal ?_; refine JE_then ?_; refine JC_region ?_
     refine JL_m ?_; refine JL_add_to rfl rfl i6o ?_; refine JL_a ?_; refine JL_nv 68 ?_; refine JE_nextS (e + 1) kr ?_ ?_ kr ?_
     · exact (by omega : e + 1 ≤ O.length * R.length)
     · first | omega | (dsimp only; omega)
     · exact subset_app subset_nil ss0
    ·refine JL_dv 68 ?_; refine JC_false rfl ?_; refine JC_region ?_; refine JL_m ?_; refine JL_m ?_; refine JL_m ?_; refine JL_idx (e + 2) sl22 rfl rfl rfl om rdg lno ?_; refine JL_loadE ty3 rfl rdg (i64s_get om) ?_; rw [hme]; refine JL_callF' Asks.nil (dec_con (n := m) hm2) rfl ca42 ⟨rfl, rfl⟩ ?_; rintro _ _ ⟨rfl, rfl⟩; refine JL_addS rfl rfl (by rw [bs_size, bs_size]; (try simp only [lenS]); omega) ?_; rw [bs_app, show nmI O.length R.length (B10.drop 2) e ++ dd m = nmI O.length R.length (B10.drop 2) (e + 1) from by rw [nmI_step, hA.2.2, hdE, hme, ent_small h50, Int.toNat_natCast]; all_goals (first | rfl | rw [List.append_nil])]; refine JL_a ?_; refine JL_nu 68 [box _ _ [_, _, _]] [_, _, _, _, _, _, _] ?_; refine JE_block_normal ?_; refine JE_then ?_; refine JC_region ?_; refine JL_m ?_; refine JL_add_to rfl rfl i6o ?_; refine JL_a ?_; refine JL_nv 68 ?_; refine JE_nextS (e + 1) kr ?_ ?_ kr ?_
     · exact (by omega : e + 1 ≤ O.length * R.length)
     · first | omega | (dsimp only; omega)
     · exact subset_app subset_nil ss0
  ·refine JL_dv 68 ?_; refine JC_false rfl ?_; refine JC_exit ?_; refine JE_then_exit ?_; refine JE_nextS_exit ?_; refine JE_block_exit ?_; refine JE_then ?_; refine JC_sr ?_; refine JL_m ?_; refine JL_a ?_; refine JL_a ?_; refine JL_dv 68 ?_; refine JC_ret ?_
   have heq : e = (B10.drop 2).length := by rw [hBl]; omega
   rw [heq, nmI_all (valG_nw2 hv) hBl]; refine JE_ret (vs := [_, _]) [] Tryz.results14 ⟨rfl, rfl, rfl⟩ ?_ ?_
   · exact ⟨nameT O.length R.length (B10.drop 2), by rw [he0]; rfl, rfl, fun _ => ⟨B10, hB10 he0, rfl⟩, fun h => absurd he0 h⟩
   · exact all_nil

end Go.Fw.K
