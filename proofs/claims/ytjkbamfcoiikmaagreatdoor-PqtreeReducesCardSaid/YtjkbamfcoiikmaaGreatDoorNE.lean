/- Walks through functions of the given program: each meets its contract. (Printed by a program of this repo.) -/
import Derived.Test.YtjkbamfcoiikmaaGreatDoorNC
import Derived.Test.YtjkbamfcoiikmaaGreatDoorRfH
import Derived.Test.YtjkbamfcoiikmaaGreatDoorFwBs
import Derived.Test.YtjkbamfcoiikmaaGreatDoorRfI
import Derived.Test.YtjkbamfcoiikmaaGreatDoorVV
import Derived.Test.YtjkbamfcoiikmaaGreatDoorME
import Derived.Test.YtjkbamfcoiikmaaGreatDoorProg
namespace Go.Fw.NE
open Go Go.RowKit Go.Proofs Go.Nat9 Go.Fw
attribute [local irreducible] JC JL JE
theorem ca42 : callable Tryz.prog 42 = true := by kernel_rfl
theorem ca44 : callable Tryz.prog 44 = true := by kernel_rfl
theorem ca46 : callable Tryz.prog 46 = true := by kernel_rfl
theorem ca77 : callable Tryz.prog 77 = true := by kernel_rfl
theorem ca78 : callable Tryz.prog 78 = true := by kernel_rfl
theorem ca79 : callable Tryz.prog 79 = true := by kernel_rfl
theorem ca81 : callable Tryz.prog 81 = true := by kernel_rfl
theorem ca82 : callable Tryz.prog 82 = true := by kernel_rfl
theorem ca87 : callable Tryz.prog 87 = true := by kernel_rfl
theorem fo66_0 : fOf Tryz.prog 66 0 = some 0 := by kernel_rfl
theorem fo66_1 : fOf Tryz.prog 66 1 = some 1 := by kernel_rfl
theorem fo66_2 : fOf Tryz.prog 66 2 = some 2 := by kernel_rfl
theorem fo69_1 : fOf Tryz.prog 69 1 = some 1 := by kernel_rfl
theorem it43 : intTy Tryz.prog 43 = some .u64 := by kernel_rfl
theorem it5 : intTy Tryz.prog 5 = some .u8 := by kernel_rfl
theorem mixed : Tryz.prog.follows .mixedOrders = true := by kernel_rfl
theorem pt25 : Tryz.prog.underlying 25 = some (.pointer (Tryz.prog.pointee 25)) := by kernel_rfl
theorem pt29 : Tryz.prog.underlying 29 = some (.pointer (Tryz.prog.pointee 29)) := by kernel_rfl
theorem sl113 : slOf Tryz.prog 113 = some (5, 1, 1, [.int .u8 0]) := by kernel_rfl
theorem sl22 : slOf Tryz.prog 22 = some (32, 1, 24, [.slice none 0 0]) := by kernel_rfl
theorem sl32 : slOf Tryz.prog 32 = some (3, 1, 8, [.int .i64 0]) := by kernel_rfl
theorem sl64 : slOf Tryz.prog 64 = some (66, 3, 40, [.int .i64 0, .int .i64 0, .slice none 0 0]) := by kernel_rfl
theorem st39 : stOf Tryz.prog 39 = some ([(0, 1)], [.slice none 0 0]) := by kernel_rfl
theorem ty3 : tyOf Tryz.prog 3 = some (false, 1) := by kernel_rfl
theorem ty32 : tyOf Tryz.prog 32 = some (false, 1) := by kernel_rfl
theorem ty39 : tyOf Tryz.prog 39 = some (true, 1) := by kernel_rfl
theorem ty64 : tyOf Tryz.prog 64 = some (false, 1) := by kernel_rfl
theorem ty66 : tyOf Tryz.prog 66 = some (true, 3) := by kernel_rfl
theorem us3 : (Tryz.prog.underlying 3).isSome = true := by kernel_rfl
theorem usl113 : Tryz.prog.underlying 113 = some (.slice 5) := by kernel_rfl
theorem ustr9 : Tryz.prog.underlying 9 = some .string := by kernel_rfl
theorem uu8 : Tryz.prog.underlying 5 = some (.int .u8) := by kernel_rfl
theorem z39 : zeroOf Tryz.prog 39 = some [.slice none 0 0] := by kernel_rfl
end Go.Fw.NE
namespace Go.Fw.K
open Go Go.RowKit Go.Proofs Go.Nat9 Go.Fw Go.Fw.NE
attribute [local irreducible] JC JL JE

open Go.Fw.Pq
theorem tfirstN_con  :
    ConF Tryz.prog 20 [.pointer none] []
      (fun v φo => v = .slice none 0 0 ∧ φo = []) := by
 refine ConF_of Tryz.func20 rfl 10 (_ :: rp 9) rfl rfl ?_; intro w0; refine JC_st [] [] ?_; refine JC_sr ?_; refine JL_a ?_; refine JL_dv 10 ?_; refine JC_seq ?_; refine JC_sr ?_; refine JL_m ?_; refine JL_eqlPtr pt25 rfl rfl ?_; refine JL_splitV (fun h4 => ?_) (fun h4 => ?_)
 ·refine JL_dv 10 ?_; refine JC_true rfl ?_; refine JC_sr ?_; refine JL_a ?_; refine JL_dv 10 ?_; refine JC_ret ?_; refine JE_then_ret ?_; refine JE_ret (vs := [_]) [] Tryz.results20 ⟨rfl, rfl⟩ ?_ ?_
  · exact ⟨rfl, rfl⟩
  · exact all_nil
 · exact absurd h4 (by decide)

theorem tcountN_con  :
    ConF Tryz.prog 18 [.pointer none] []
      (fun v φo => v = .agg #[.slice none 0 0] ∧ φo = []) := by
 refine ConF_of Tryz.func18 rfl 11 (_ :: rp 10) rfl rfl ?_; intro w0; refine JC_st [] [] ?_; refine JC_sr ?_; refine JL_alloc z39 (fun b2 => ?_); refine JL_du 11 [box _ _ [_]] [] ?_; refine JC_seq ?_; refine JC_sr ?_; refine JL_m ?_; refine JL_eqlPtr pt25 rfl rfl ?_; refine JL_splitV (fun h4 => ?_) (fun h4 => ?_)
 ·refine JL_dv 11 ?_; refine JC_true rfl ?_; refine JC_sr ?_; refine JL_build (cs := [_]) [] st39 rfl rfl ?_; refine JL_store (vs := [_]) 0 ty39 rfl rfl rfl ao1 rfl bleq ?_; refine JL_du 11 [box _ _ [_]] [] ?_; refine JC_ret ?_; refine JE_then_ret ?_; refine JE_ret (vs := [_]) [] Tryz.results18 ⟨RV.cell (vs := [_]) 0 ty39 rfl rfl ⟨rfl, trivial⟩, rfl⟩ ?_ ?_
  · exact ⟨rfl, rfl⟩
  · exact all_nil
 · exact absurd h4 (by decide)

theorem rless_con {ad1 ad2 : Option Addr} {c1 c2 : Nat} {A B : List Int} (hA : A.length ≤ 1000000) :
    ConF Tryz.prog 87 [.slice ad1 A.length c1, .slice ad2 B.length c2] [vCells ad1 (i64s A), vCells ad2 (i64s B)]
      (fun v φo => ∃ r : Bool, v = .bool r ∧ φo = [] ∧ LsR A B r) := by
 refine ConF_of Tryz.func87 rfl 41 (_ :: _ :: rp 39) rfl rfl ?_; intro w0; refine JC_st [] [_, _] ?_; refine JC_sr ?_; refine JL_a ?_; refine JL_dv 41 ?_; refine JC_seq ?_; refine JC_sr ?_; refine JL_a ?_; refine JL_dv 41 ?_; refine JC_block ?_; refine JC_loopS ((Nat)) (fun (i : Nat) => i ≤ A.length ∧ i ≤ B.length ∧ ∀ j, j < i → A.getD j 0 = B.getD j 0) (fun (i : Nat) => A.length - i) (fun u (i : Nat) => (rn 4 (some (u 4) :: some (.int .i64 (i : Nat)) :: sc u 6 30 []))) (fun (i : Nat) => []) (fun (i : Nat) => []) (0) kr ?_ kr ?_ ?_
 · exact ⟨Nat.zero_le _, Nat.zero_le _, fun j hj => absurd hj (Nat.not_lt_zero _)⟩
 · exact subset_nil
 intro u i hC; obtain ⟨hi, hi2, hj⟩ := hC; refine JC_nm 41 [] [_, _] ?_; refine JC_seq ?_; refine JC_sr ?_; refine JL_m ?_; refine JL_m ?_; refine JL_len sl32 rfl ?_; refine JL_lss rfl rfl ?_; refine JL_split (fun h9 => ?_) (fun h9 => ?_)
 ·refine JL_m ?_; refine JL_gy ?_; refine JL_m ?_; refine JL_gy ?_; refine JL_m ?_; refine JL_gy ?_; refine JL_len sl32 rfl ?_; refine JL_gy ?_; refine JL_lss rfl rfl ?_; refine JL_split (fun h14 => ?_) (fun h14 => ?_)
  ·refine JL_pick_t rfl rfl ?_; refine JL_dv 41 ?_; refine JC_true rfl ?_; refine JC_skip ?_; refine JE_then ?_; refine JC_seq ?_; refine JC_block ?_; refine JC_seq ?_; refine JC_drawT mixed 8 [spV 18 [] _, spV 19 [] _, spV 20 [0, 1] _, spV 21 [2] _, spV 22 [] _, spV 23 [] _, spV 24 [4, 5] _, spV 25 [6] _] ⟨oM, oM, OblS_V (fun vals ex ψ => (by refine JL_normQ _ (_ :: _ :: ψ) rfl rfl ?_; refine JL_idx i sl32 rfl rfl rfl om rdg lno ?_; exact vz rfl)), OblS_V (fun vals ex ψ => (by refine JL_normQ _ (_ :: _ :: ψ) rfl rfl ?_; refine JL_loadE ty3 rfl rdg (i64s_get om) ?_; exact vz rfl)), oM, oM, OblS_V (fun vals ex ψ => (by refine JL_normQ _ (_ :: _ :: ψ) rfl rfl ?_; refine JL_idx i sl32 rfl rfl rfl om rdg lno ?_; exact vz rfl)), OblS_V (fun vals ex ψ => (by refine JL_normQ _ (_ :: _ :: ψ) rfl rfl ?_; refine JL_loadE ty3 rfl rdg (i64s_get om) ?_; exact vz rfl)), trivial⟩ kr (fun vals bs => ?_)
   refine JL_normL [_] ⟨41, [(18, _), (19, _), (20, _), (21, _), (22, _), (23, _), (24, _), (25, _)], _⟩ [] [_, _] rfl rfl rfl rfl ?_; refine JL_neq rfl rfl ?_; refine JL_split (fun h26 => ?_) (fun h26 => ?_)
   ·refine JL_du 41 [] [_, _] ?_; refine JC_true rfl ?_; refine JC_seq ?_; refine JC_drawT mixed 8 [spV 27 [] _, spV 28 [] _, spV 29 [0, 1] _, spV 30 [2] _, spV 31 [] _, spV 32 [] _, spV 33 [4, 5] _, spV 34 [6] _] ⟨oM, oM, OblS_V (fun vals ex ψ => (by refine JL_normQ _ (_ :: _ :: ψ) rfl rfl ?_; refine JL_idx i sl32 rfl rfl rfl om rdg lno ?_; exact vz rfl)), OblS_V (fun vals ex ψ => (by refine JL_normQ _ (_ :: _ :: ψ) rfl rfl ?_; refine JL_loadE ty3 rfl rdg (i64s_get om) ?_; exact vz rfl)), oM, oM, OblS_V (fun vals ex ψ => (by refine JL_normQ _ (_ :: _ :: ψ) rfl rfl ?_; refine JL_idx i sl32 rfl rfl rfl om rdg lno ?_; exact vz rfl)), OblS_V (fun vals ex ψ => (by refine JL_normQ _ (_ :: _ :: ψ) rfl rfl ?_; refine JL_loadE ty3 rfl rdg (i64s_get om) ?_; exact vz rfl)), trivial⟩ kr (fun vals bs => ?_)
    refine JL_normL [_, _] ⟨41, [(27, _), (28, _), (29, _), (30, _), (31, _), (32, _), (33, _), (34, _)], _⟩ [] [_, _] rfl rfl rfl rfl ?_; refine JL_lss rfl rfl ?_; refine JL_a ?_; refine JL_du 41 [] [_, _] ?_; refine JC_ret ?_; refine JE_block_ret ?_; refine JE_then_ret ?_; refine JE_nextS_ret ?_; refine JE_block_ret ?_; refine JE_then_ret ?_; refine JE_ret (vs := [_]) [] Tryz.results87 ⟨rfl, rfl⟩ ?_ ?_
    · exact ⟨_, rfl, rfl, .inl ⟨i, by omega, by omega, hj, h26, decide_eq_true_iff⟩⟩
    · exact all_nil
   ·refine JL_du 41 [] [_, _] ?_; refine JC_false rfl ?_; refine JC_skip ?_; refine JE_block_normal ?_; refine JE_then ?_; refine JC_region ?_; refine JL_m ?_; refine JL_add_to rfl rfl i6o ?_; refine JL_a ?_; refine JL_nv 41 ?_; refine JE_nextS (i + 1) kr ?_ ?_ kr ?_
    · exact ⟨by omega, by omega, fun j h => by
      rcases Nat.lt_or_ge j i with h3 | h3
      · exact hj j h3
      · obtain rfl : j = i := by omega
        exact Classical.not_not.1 h26⟩
    · first | omega | (dsimp only; omega)
    · exact subset_app subset_nil ss0
  ·refine JL_pick_t rfl rfl ?_; refine JL_dv 41 ?_; refine JC_false rfl ?_; refine JC_exit ?_; refine JE_then_exit ?_; refine JE_nextS_exit ?_; refine JE_block_exit ?_; refine JE_then ?_; refine JC_sr ?_; refine JL_m ?_; refine JL_len sl32 rfl ?_; refine JL_m ?_; refine JL_len sl32 rfl ?_; refine JL_lss rfl rfl ?_; refine JL_a ?_; refine JL_dv 41 ?_; refine JC_ret ?_; refine JE_ret (vs := [_]) [] Tryz.results87 ⟨rfl, rfl⟩ ?_ ?_
   · exact ⟨_, rfl, rfl, .inr ⟨fun j h1 h2 => hj j om, by rw [decide_eq_true_iff]; omega⟩⟩
   · exact all_nil
 ·refine JL_m ?_; refine JL_gn ?_; refine JL_gn ?_; refine JL_gn ?_; refine JL_gn ?_; refine JL_pick_f rfl rfl ?_; refine JL_dv 41 ?_; refine JC_false rfl ?_; refine JC_exit ?_; refine JE_then_exit ?_; refine JE_nextS_exit ?_; refine JE_block_exit ?_; refine JE_then ?_; refine JC_sr ?_; refine JL_m ?_; refine JL_len sl32 rfl ?_; refine JL_m ?_; refine JL_len sl32 rfl ?_; refine JL_lss rfl rfl ?_; refine JL_a ?_; refine JL_dv 41 ?_; refine JC_ret ?_; refine JE_ret (vs := [_]) [] Tryz.results87 ⟨rfl, rfl⟩ ?_ ?_
  · exact ⟨_, rfl, rfl, .inr ⟨fun j h1 h2 => hj j om, by rw [decide_eq_true_iff]; omega⟩⟩
  · exact all_nil

theorem rleast_con0 {t : AT} (hf : Fit t)
    (IH : ∀ k ∈ t.kids, ConF Tryz.prog 77 [nval k] [vN k] (fun v φo => v = .int .i64 (lsA (k) : Nat) ∧ φo = [])) :
    ConF Tryz.prog 77 [nval t] [vN t]
      (fun v φo => v = .int .i64 (lsA (t) : Nat) ∧ φo = []) := by
 have hln := fitL hf
 refine ConF_of Tryz.func77 rfl 31 (_ :: rp 30) rfl rfl ?_; intro w0; refine JC_st [] [_] ?_; refine JC_sr ?_; refine JL_box rfl rfl (fun b1 => ?_); refine JL_a ?_; refine JL_du 31 [box _ _ [_, _, _]] [_] ?_; refine JC_seq ?_; refine JC_seq ?_; refine JC_nOpen (f := false) (t := t) am ?_; refine JC_region ?_; refine JL_fieldAddr fo66_0 rfl ?_; refine JL_load 0 ty3 rfl rfl rfl ?_; refine JL_eql rfl rfl ?_; refine JL_split (fun h7 => ?_) (fun h7 => ?_)
 ·refine JL_dv 31 ?_; refine JC_true rfl ?_; refine JC_sr ?_; refine JL_fieldAddr fo66_1 rfl ?_; refine JL_load 0 ty3 rfl rfl rfl ?_; refine JL_a ?_; refine JL_dv 31 ?_; refine JC_ret ?_; refine JE_then_ret ?_; refine JE_ret (vs := [_]) [] Tryz.results77 ⟨rfl, rfl⟩ ?_ ?_
  · rw [lsA_lf (kd_zero.1 h7)]; exact ⟨rfl, rfl⟩
  · exact all_nil
 ·refine JL_dv 31 ?_; refine JC_false rfl ?_; refine JC_skip ?_; refine JE_then ?_; refine JC_seq ?_
  have hk0 : t.kids.length ≠ 0 := fun e => h7 (kd_zero.2 e)
  refine JC_region ?_; refine JL_fieldAddr fo66_2 rfl ?_; refine JL_load 0 ty64 rfl rfl rfl ?_; refine JL_indexAddr 0 sl64 rfl rfl rfl om rdg (by rw [ncL_len]; omega) ?_; refine JL_loadEA (vs := [_, _, _]) ty66 zp rfl rdg (ncL_getA om) ?_; refine JL_callF' (Asks.cons (holds_of_mem am) Asks.nil) (conN0 (IH (t.kids.getD 0 default) (at_mem (l := t.kids) (i := 0) om)) (at_mem (l := t.kids) (i := 0) om)) rfl ca77 ⟨rfl, rfl⟩ ?_; rintro _ _ ⟨rfl, rfl⟩; refine JL_a ?_; refine JL_du 31 [box _ _ [_, _, _]] [_, _, _] ?_; refine JC_seq ?_; refine JC_sr ?_; refine JL_a ?_; refine JL_dv 31 ?_; refine JC_block ?_; refine JC_loopS ((Nat)) (fun (j : Nat) => j + 1 ≤ t.kids.length) (fun (j : Nat) => t.kids.length - j) (fun u (j : Nat) => (rn 3 (some (.int .i64 (mnA t.kids j : Nat)) :: some (.int .i64 ((j + 1 : Nat) : Int)) :: rn 10 (sc u 15 15 [])))) (fun (j : Nat) => []) (fun (j : Nat) => []) (0) kr ?_ kr ?_ ?_
  · omega
  · exact subset_nil
  intro u j hj; refine JC_nm 31 [box _ _ [_, _, _]] [_, _, _] ?_; refine JC_seq ?_; refine JC_sr ?_; refine JL_m ?_; refine JL_fieldAddr fo66_2 rfl ?_; refine JL_load 0 ty64 rfl rfl rfl ?_; refine JL_len sl64 rfl ?_; refine JL_lss rfl rfl ?_; refine JL_split (fun h19 => ?_) (fun h19 => ?_)
  ·refine JL_dv 31 ?_; refine JC_true rfl ?_; refine JC_skip ?_; refine JE_then ?_; refine JC_seq ?_; refine JC_block ?_; refine JC_region ?_; refine JL_m ?_; refine JL_fieldAddr fo66_2 rfl ?_; refine JL_load 0 ty64 rfl rfl rfl ?_; refine JL_m ?_; refine JL_indexAddr (j + 1) sl64 rfl rfl rfl om rdg (by rw [ncL_len]; omega) ?_; refine JL_loadEA (vs := [_, _, _]) ty66 zp rfl rdg (ncL_getA om) ?_; refine JL_callF' (Asks.cons (holds_of_mem am) Asks.nil) (conN0 (IH (t.kids.getD (j + 1) default) (at_mem (l := t.kids) (i := j + 1) om)) (at_mem (l := t.kids) (i := j + 1) om)) rfl ca77 ⟨rfl, rfl⟩ ?_; rintro _ _ ⟨rfl, rfl⟩; refine JL_min rfl rfl ?_; rw [mnI, ← mnA_step om]; refine JL_a ?_; refine JL_nu 31 [box _ _ [_, _, _]] [_, _, _] ?_; refine JE_block_normal ?_; refine JE_then ?_; refine JC_region ?_; refine JL_m ?_; refine JL_add_to rfl rfl i6o ?_; refine JL_a ?_; refine JL_nv 31 ?_; refine JE_nextS (j + 1) kr ?_ ?_ kr ?_
   · omega
   · first | omega | (dsimp only; omega)
   · exact subset_app subset_nil ss0
  ·refine JL_dv 31 ?_; refine JC_false rfl ?_; refine JC_exit ?_; refine JE_then_exit ?_; refine JE_nextS_exit ?_; refine JE_block_exit ?_; refine JE_then ?_; refine JC_sr ?_; refine JL_m ?_; refine JL_a ?_; refine JL_dv 31 ?_; refine JC_ret ?_; refine JE_ret (vs := [_]) [] Tryz.results77 ⟨rfl, rfl⟩ ?_ ?_
   · rw [mnA_done (j := j) hk0 om]; exact ⟨rfl, rfl⟩
   · exact all_nil

theorem rleast_con (t : AT) : Fit t → ConF Tryz.prog 77 [nval t] [vN t] (fun v φo => v = .int .i64 (lsA (t) : Nat) ∧ φo = []) := by
  induction t using AT.indP with
  | h t ih => exact fun hf => rleast_con0 hf fun k hk => ih k hk (fitK hf k hk)

theorem rtexts_con {ad : Option Addr} {c : Nat} {l : List AT} (hf : ∀ k ∈ l, Fit k) (hx : ∀ k ∈ l, ∀ x ∈ lvs (er k), x < 100) (hN : nA l ≤ 1000)
    (IH : ∀ k ∈ l, ConA Tryz.prog 42 [nval k] [vN k] (fun v φo => v = .string (bs (tx (k))) ∧ φo = [])) :
    ConA Tryz.prog 79 [.slice ad l.length c] [vCells ad (ncL l), vNs l]
      (fun v φo => v = .string (bs (txs l)) ∧ φo = []) := by
 have hll := nA_ge hf
 refine ConA_of Tryz.func79 rfl 23 (_ :: rp 22) rfl rfl ?_; intro w0; refine JC_st [] [_, _] ?_; refine JC_sr ?_; refine JL_a ?_; refine JL_dv 23 ?_; refine JC_sr ?_; refine JL_a ?_; refine JL_dv 23 ?_; refine JC_seq ?_; refine JC_sr ?_; refine JL_a ?_; refine JL_dv 23 ?_; refine JC_block ?_; refine JC_loopS ((Nat)) (fun (i : Nat) => i ≤ l.length) (fun (i : Nat) => l.length - i) (fun u (i : Nat) => (rn 3 (some (.string (bs (txs (l.take i)))) :: some (.int .i64 (i : Nat)) :: sc u 5 17 []))) (fun (i : Nat) => []) (fun (i : Nat) => []) (0) kr ?_ kr ?_ ?_
 · exact Nat.zero_le _
 · exact subset_nil
 intro u i hi; refine JC_nm 23 [] [_, _] ?_
 have hsz := txs_len (l := l.take i) (fun k hk => hf k (List.mem_of_mem_take hk)) (fun k hk => hx k (List.mem_of_mem_take hk))
 have hnt := nA_le l i
 have hbz := bs_size (txs (l.take i))
 refine JC_seq ?_; refine JC_sr ?_; refine JL_m ?_; refine JL_m ?_; refine JL_len sl64 rfl ?_; refine JL_lss rfl rfl ?_; refine JL_split (fun h8 => ?_) (fun h8 => ?_)
 ·refine JL_dv 23 ?_; refine JC_true rfl ?_; refine JC_skip ?_; refine JE_then ?_; refine JC_seq ?_; refine JC_block ?_; refine JC_seq ?_; refine JC_sr ?_; refine JL_m ?_; refine JL_gtr rfl rfl ?_; refine JL_split (fun h12 => ?_) (fun h12 => ?_)
  ·refine JL_dv 23 ?_; refine JC_true rfl ?_; refine JC_region ?_; refine JL_m ?_; refine JL_addS (b := Pq.bs [32]) rfl rfl (by rw [bs_size, bs_size]; show _ + 1 ≤ _; omega) ?_; rw [bs_app]; refine JL_a ?_; refine JL_dv 23 ?_; refine JC_region ?_; refine JL_m ?_; refine JL_m ?_; refine JL_m ?_; refine JL_indexAddr i sl64 rfl rfl rfl om rdg (by rw [ncL_len]; omega) ?_; refine JL_loadEA (vs := [_, _, _]) ty66 zp rfl rdg (ncL_getA om) ?_; refine JL_callA' true (AsksA.cons (holdsA_of_mem am) AsksA.nil) (conNA0 (IH (l.getD i default) (at_mem (l := l) (i := i) om)) (at_mem (l := l) (i := i) om)) rfl ca42 ⟨rfl, rfl⟩ ?_; rintro _ _ ⟨rfl, rfl⟩
   have hkt : (tx (l.getD i default)).length + 3 ≤ 5 * (lvs (er (l.getD i default))).length := text_len (hf _ (at_mem (l := l) (i := i) om)).ok (hx _ (at_mem (l := l) (i := i) om))
   have hkn := nA_mem (at_mem (l := l) (i := i) om)
   have hbk := bs_size (tx (l.getD i default))
   refine JL_addS rfl rfl (by rw [bs_size, bs_size]; (try rw [List.length_append]); have e : ([32] : List UInt8).length = 1 := rfl; omega) ?_
   first | rw [bs_app, ← txs_snoc om om] | rw [bs_app, ← txs_zero om om]
   refine JL_a ?_; refine JL_nu 23 [] [_, _] ?_; refine JE_block_normal ?_; refine JE_then ?_; refine JC_region ?_; refine JL_m ?_; refine JL_add_to rfl rfl i6o ?_; refine JL_a ?_; refine JL_nv 23 ?_; refine JE_nextS (i + 1) kr ?_ ?_ kr ?_
   · omega
   · first | omega | (dsimp only; omega)
   · exact subset_app subset_nil ss0
  ·refine JL_dv 23 ?_; refine JC_false rfl ?_; refine JC_skip ?_; refine JE_then ?_; refine JC_region ?_; refine JL_m ?_; refine JL_m ?_; refine JL_m ?_; refine JL_indexAddr i sl64 rfl rfl rfl om rdg (by rw [ncL_len]; omega) ?_; refine JL_loadEA (vs := [_, _, _]) ty66 zp rfl rdg (ncL_getA om) ?_; refine JL_callA' true (AsksA.cons (holdsA_of_mem am) AsksA.nil) (conNA0 (IH (l.getD i default) (at_mem (l := l) (i := i) om)) (at_mem (l := l) (i := i) om)) rfl ca42 ⟨rfl, rfl⟩ ?_; rintro _ _ ⟨rfl, rfl⟩
   have hkt : (tx (l.getD i default)).length + 3 ≤ 5 * (lvs (er (l.getD i default))).length := text_len (hf _ (at_mem (l := l) (i := i) om)).ok (hx _ (at_mem (l := l) (i := i) om))
   have hkn := nA_mem (at_mem (l := l) (i := i) om)
   have hbk := bs_size (tx (l.getD i default))
   refine JL_addS rfl rfl (by rw [bs_size, bs_size]; (try rw [List.length_append]); have e : ([32] : List UInt8).length = 1 := rfl; omega) ?_
   first | rw [bs_app, ← txs_snoc om om] | rw [bs_app, ← txs_zero om om]
   refine JL_a ?_; refine JL_nu 23 [] [_, _] ?_; refine JE_block_normal ?_; refine JE_then ?_; refine JC_region ?_; refine JL_m ?_; refine JL_add_to rfl rfl i6o ?_; refine JL_a ?_; refine JL_nv 23 ?_; refine JE_nextS (i + 1) kr ?_ ?_ kr ?_
   · omega
   · first | omega | (dsimp only; omega)
   · exact subset_app subset_nil ss0
 ·refine JL_dv 23 ?_; refine JC_false rfl ?_; refine JC_exit ?_; refine JE_then_exit ?_; refine JE_nextS_exit ?_; refine JE_block_exit ?_; refine JE_then ?_; refine JC_sr ?_; refine JL_m ?_; refine JL_a ?_; refine JL_dv 23 ?_; refine JC_ret ?_; refine JE_ret (vs := [_]) [] Tryz.results79 ⟨rfl, rfl⟩ ?_ ?_
  · rw [List.take_of_length_le (show l.length ≤ i by omega)]; exact ⟨rfl, rfl⟩
  · exact all_nil

set_option maxHeartbeats 4000000 in
theorem rtext_con0 {t : AT} (hf : Fit t) (hn : (lvs (er t)).Nodup) (hx : ∀ x ∈ lvs (er t), x < 16) (hL : (lvs (er t)).length ≤ 1000)
    (IH : ∀ k ∈ t.kids, ConA Tryz.prog 42 [nval k] [vN k] (fun v φo => v = .string (bs (tx (k))) ∧ φo = [])) :
    ConA Tryz.prog 42 [nval t] [vN t]
      (fun v φo => v = .string (bs (tx (t))) ∧ φo = []) := by
 have hlen := text_len hf.ok (fun x h => Nat.lt_trans (hx x h) (by decide))
 refine ConA_of Tryz.func42 rfl 96 (_ :: rp 95) rfl rfl ?_; intro w0; refine JC_st [] [_] ?_; refine JC_sr ?_; refine JL_box rfl rfl (fun b1 => ?_); refine JL_a ?_; refine JL_du 96 [box _ _ [_, _, _]] [_] ?_; refine JC_seq ?_; refine JC_seq ?_; refine JC_nOpen (f := true) (t := t) am ?_; refine JC_region ?_; refine JL_fieldAddr fo66_0 rfl ?_; refine JL_load 0 ty3 rfl rfl rfl ?_; refine JL_eql rfl rfl ?_; refine JL_split (fun h8 => ?_) (fun h8 => ?_)
 ·have h0 := kd_zero.1 h8
  have hc16 := hx t.col (by rw [er_lf h0]; exact List.mem_cons_self)
  refine JL_dv 96 ?_; refine JC_true rfl ?_; refine JC_seq ?_; refine JC_sr ?_; refine JL_fieldAddr fo66_1 rfl ?_; refine JL_load 0 ty3 rfl rfl rfl ?_; refine JL_gtr rfl rfl ?_; refine JL_split (fun h11 => ?_) (fun h11 => ?_)
  ·refine JL_dv 96 ?_; refine JC_true rfl ?_; refine JC_sr ?_; refine JL_fieldAddr fo66_1 rfl ?_; refine JL_load 0 ty3 rfl rfl rfl ?_; refine JL_add_to rfl rfl i6o ?_; refine JL_sub_to rfl rfl i6o ?_; refine JL_convInt us3 it5 rfl (IntWalk.u8_in _ om) ?_; refine JL_build1 sl113 rfl rfl (fun g17 => ?_); refine JL_toStr1 usl113 uu8 ustr9 rfl (Reads.own 1 rfl) ?_; refine JL_addS (a := Pq.bs [49]) (b := Pq.bs [UInt8.ofNat (48 + ((t.col : Nat) : Int) - 10).toNat]) rfl rfl (by rw [bs_size, bs_size]; show 1 + 1 ≤ 9223372036854775807; omega) ?_; rw [bs_app]; refine JL_a ?_; refine JL_du 96 [box _ _ [_, _, _], osl _ _ _ _ _ _] [_, _, _] ?_; refine JC_ret ?_; refine JE_then_ret ?_; refine JE_then_ret ?_; refine JE_ret (vs := [_]) [] Tryz.results42 ⟨rfl, rfl⟩ ?_ ?_
   · rw [tx_hi h0 hc16 om]; exact ⟨rfl, rfl⟩
   · exact all_nil
  ·refine JL_dv 96 ?_; refine JC_false rfl ?_; refine JC_skip ?_; refine JE_then ?_; refine JC_sr ?_; refine JL_fieldAddr fo66_1 rfl ?_; refine JL_load 0 ty3 rfl rfl rfl ?_; refine JL_add_to rfl rfl i6o ?_; refine JL_convInt us3 it5 rfl (IntWalk.u8_in _ om) ?_; refine JL_build1 sl113 rfl rfl (fun g24 => ?_); refine JL_toStr1 usl113 uu8 ustr9 rfl (Reads.own 1 rfl) ?_; refine JL_a ?_; refine JL_du 96 [box _ _ [_, _, _], osl _ _ _ _ _ _] [_, _, _] ?_; refine JC_ret ?_; refine JE_then_ret ?_; refine JE_ret (vs := [_]) [] Tryz.results42 ⟨rfl, rfl⟩ ?_ ?_
   · rw [tx_lo h0 hc16 om]; exact ⟨rfl, rfl⟩
   · exact all_nil
 ·have hk0 : t.kids.length ≠ 0 := fun e => h8 (kd_zero.2 e)
  have hN := nA_kn hk0
  have hln := fitL hf
  have hx1 : ∀ k ∈ t.kids, ∀ x ∈ lvs (er k), x < 100 := fun k hk x h => Nat.lt_trans (kidsLt hx k hk x h) (by decide)
  refine JL_dv 96 ?_; refine JC_false rfl ?_; refine JC_skip ?_; refine JE_then ?_; refine JC_sr ?_; refine JL_build0 sl64 (fun g26 => ?_); refine JL_fieldAddr fo66_2 rfl ?_; refine JL_load 0 ty64 rfl rfl rfl ?_; refine JL_append (news := ncL t.kids) 1 sl64 rfl (by decide) rfl rfl rfl (by rw [ncL_len]) (Reads.view am) (ncL_one _) om om (fun ad29 cap29 hc29 => ?_); refine JL_norm _ [box _ _ [_, _, _], osl _ _ _ _ _ _] [_, _, _] rfl rfl rfl ?_; rw [List.nil_append, Nat.zero_add t.kids.length]; rw [Nat.zero_add] at hc29; refine JL_a ?_; refine JL_du 96 [box _ _ [_, _, _], osl _ _ _ _ _ _] [_, _, _] ?_; refine JC_seq ?_; refine JC_sr ?_; refine JL_fieldAddr fo66_0 rfl ?_; refine JL_load 0 ty3 rfl rfl rfl ?_; refine JL_eql rfl rfl ?_; refine JL_split (fun h32 => ?_) (fun h32 => ?_)
  ·have hq : t.line = true := (kd_two.1 h32).2
   refine JL_dv 96 ?_; refine JC_true rfl ?_; refine JC_seq ?_; refine JC_seq ?_; refine JC_give 1 rfl ?_; refine JC_nw [box _ _ [_, _, _]] [_, _, _, _] ?_; refine JC_drawT mixed 10 [spV 33 [] _, spV 34 [0] _, spV 35 [1] _, spC 36 [2] _, spV 37 [] _, spV 38 [] _, spV 39 [5] _, spV 40 [6] _, spV 41 [4, 7] _, spV 42 [8] _] ⟨oM, OblS_V (fun vals ex ψ => (by refine JL_normQ _ (_ :: _ :: _ :: _ :: ψ) rfl rfl ?_; refine JL_indexAddr 0 sl64 rfl rfl rfl om rdg (by rw [ncL_len]; omega) ?_; exact vz rfl)), OblS_V (fun vals ex ψ => (by refine JL_normQ _ (_ :: _ :: _ :: _ :: ψ) rfl rfl ?_; refine JL_loadEA (vs := [_, _, _]) ty66 zp rfl rdg (ncL_getA om) ?_; exact vz rfl)), OblS_C (fun vals ex ψ => (by refine JL_normQ ⟨96, [(33, _), (34, _), (35, _), (36, _), (37, _), (38, _), (39, _), (40, _), (41, _), (42, _)], _⟩ (_ :: _ :: _ :: _ :: ψ) rfl rfl ?_; refine JL_callF' (Asks.cons (holds_of_mem am) Asks.nil) (conN0 (rleast_con (t.kids.getD 0 default) (fitK hf _ (at_mem (l := t.kids) (i := 0) om))) (at_mem (l := t.kids) (i := 0) om)) rfl ca77 ⟨rfl, rfl⟩ ?_; exact fun v φo hP => JL_nil (JE_stepC φo rfl hP (fun p hp => mapB_l hp) (fun p hp => mapB_r (ss0 p hp))))), oM, oM, OblS_V (fun vals ex ψ => (by refine JL_normQ _ (_ :: _ :: _ :: _ :: ψ) rfl rfl ?_; refine JL_len sl64 rfl ?_; exact vz rfl)), OblS_V (fun vals ex ψ => (by refine JL_sub_to rfl rfl i6o ?_; exact vz rfl)), OblS_V (fun vals ex ψ => (by refine JL_normQ _ (_ :: _ :: _ :: _ :: ψ) rfl rfl ?_; refine JL_indexAddr (t.kids.length - 1) sl64 rfl rfl om om rdg (by rw [ncL_len]; omega) ?_; exact vz rfl)), OblS_V (fun vals ex ψ => (by
     refine JL_normQ _ (_ :: _ :: _ :: _ :: ψ) rfl rfl ?_; refine JL_loadEA (vs := [_, _, _]) ty66 zp rfl rdg (ncL_getA om) ?_; exact vz rfl)), trivial⟩ kr (fun vals bs => ?_)
   refine JL_normL [_, _] ⟨96, [(33, _), (34, _), (35, _), (36, _), (37, _), (38, _), (39, _), (40, _), (41, _), (42, _)], _⟩ [box _ _ [_, _, _]] [_, _, _, _, _] rfl rfl rfl rfl ?_; generalize vals (0 + 1 + 1 + 1) = x36; refine JL_usePost mm0 (fun φo hP => ?_); obtain ⟨rfl, rfl⟩ := hP; refine JL_norm _ [box _ _ [_, _, _]] [_, _, _, _, _] rfl rfl rfl ?_; refine JL_callF' (Asks.cons (holds_of_mem am) Asks.nil) (conN0 (rleast_con (t.kids.getD (t.kids.length - 1) default) (fitK hf _ (at_mem (l := t.kids) (i := t.kids.length - 1) om))) (at_mem (l := t.kids) (i := t.kids.length - 1) om)) rfl ca77 ⟨rfl, rfl⟩ ?_; rintro _ _ ⟨rfl, rfl⟩; refine JL_gtr rfl rfl ?_; refine JL_du 96 [box _ _ [_, _, _]] [_, _, _, _, _] ?_; refine JC_cutT ((List AT) × (Option Addr) × (Nat)) (fun (K, ad9, c9) => K = revK t.kids) (fun u (K, ad9, c9) => (rn 3 (some (.slice ad9 K.length c9) :: rn 41 (sc u 45 2 [])))) (fun (K, ad9, c9) => []) (fun (K, ad9, c9) => [(true, vCells ad9 (ncL K))]) ?_ ?_
   ·refine JC_cond rfl (fun hb => ?_) (fun hb => ?_)
    ·have h44 := of_decide_eq_true hb
     refine JC_region ?_; refine JL_m ?_; refine JL_callA' true (AsksA.cons (holdsA_of_mem am) AsksA.nil) (rturn_con om) rfl ca78 ⟨rfl, rfl⟩ ?_; rintro _ _ ⟨ad46, c46, rfl, hc46, rfl⟩; refine JL_a ?_; refine JL_nu 96 [box _ _ [_, _, _]] [_, _, _, _, _, _] ?_; refine JE_midS (t.kids.reverse, ad46, c46) kr ?_ kr ?_
     · exact (if_pos om).symm
     · exact subset_app (subset_cons am subset_nil) (ssS ss0)
    ·have h44 := of_decide_eq_false hb
     refine JC_skip ?_; refine JE_midS (t.kids, ad29, cap29) kr ?_ kr ?_
     · exact (if_neg om).symm
     · exact subset_app (subset_cons am subset_nil) ss0
   intro u i hK; obtain ⟨K, ad9, c9⟩ := i; refine JC_nm 96 [box _ _ [_, _, _]] [_, _, _, _, _, _] ?_; subst hK
   have hKp := revK_perm t.kids
   have hKl := hKp.length_eq
   have hKm : ∀ k ∈ revK t.kids, k ∈ t.kids := fun k hk => hKp.mem_iff.1 hk
   have hKN : nA (revK t.kids) = nA t.kids := nl_perm (hKp.map er)
   have hKz := txs_len (fun k hk => fitK hf k (hKm k hk)) (fun k hk => hx1 k (hKm k hk))
   have hKb := bs_size (txs (revK t.kids))
   refine JC_sr ?_; refine JL_m ?_; refine JL_nSub (f := true) (l := t.kids) (m := revK t.kids) am hKm ?_; refine JL_callA' true (AsksA.cons (holdsA_of_mem am) (AsksA.cons (holdsA_of_mem am) AsksA.nil)) (rtexts_con (l := revK t.kids) (fun k hk => fitK hf k (hKm k hk)) (fun k hk => hx1 k (hKm k hk)) om (fun k hk => IH k (hKm k hk))) rfl ca79 ⟨rfl, rfl⟩ ?_; rintro _ _ ⟨rfl, rfl⟩; refine JL_addS (a := Pq.bs [91]) rfl rfl (by rw [bs_size, bs_size]; show 1 + _ ≤ _; omega) ?_; rw [bs_app]; refine JL_addS (b := Pq.bs [93]) rfl rfl (by rw [bs_size, bs_size, List.length_append]; show 1 + _ + 1 ≤ _; omega) ?_; rw [bs_app]; refine JL_a ?_; refine JL_du 96 [box _ _ [_, _, _]] [_, _, _, _, _, _, _] ?_; refine JC_ret ?_; refine JE_then_ret ?_; refine JE_ret (vs := [_]) [] Tryz.results42 ⟨rfl, rfl⟩ ?_ ?_
   · rw [tx_Q hk0 hq]; exact ⟨rfl, rfl⟩
   · exact all_nil
  ·have hq : t.line = false := line_f hk0 h32
   refine JL_dv 96 ?_; refine JC_false rfl ?_; refine JC_skip ?_; refine JE_then ?_; refine JC_seq ?_; refine JC_sr ?_; refine JL_a ?_; refine JL_dv 96 ?_; refine JC_block ?_; refine JC_loopS ((Nat) × (List AT)) (fun (i, m) => i ≤ t.kids.length ∧ m.Perm t.kids ∧ IO m i) (fun (i, m) => t.kids.length - i) (fun u (i, m) => (rn 4 (some (.int .i64 (i : Nat)) :: some (u 5) :: rn 45 (sc u 51 41 [])))) (fun (i, m) => (none :: [some (osl ad29 t.kids.length cap29 66 3 (ncL m))])) (fun (i, m) => []) (0, t.kids) kr ?_ kr ?_ ?_
   · exact ⟨Nat.zero_le _, .refl _, fun a b _ h2 => absurd h2 (Nat.not_lt_zero _)⟩
   · exact subset_nil
   intro u i hC; obtain ⟨i, m⟩ := i; obtain ⟨hi, hm, ho⟩ := hC; refine JC_nm 96 [box _ _ [_, _, _], osl _ _ _ _ _ _] [_, _, _] ?_
   have hml := hm.length_eq
   refine JC_seq ?_; refine JC_sr ?_; refine JL_m ?_; refine JL_m ?_; refine JL_len sl64 rfl ?_; refine JL_lss rfl rfl ?_; refine JL_split (fun h54 => ?_) (fun h54 => ?_)
   ·refine JL_dv 96 ?_; refine JC_true rfl ?_; refine JC_skip ?_; refine JE_then ?_; refine JC_seq ?_; refine JC_block ?_; refine JC_sr ?_; refine JL_m ?_; refine JL_a ?_; refine JL_dv 96 ?_; refine JC_block ?_; refine JC_loopS ((Nat) × (List AT)) (fun (k, m2) => m2.Perm t.kids ∧ II m2 i k) (fun (k, m2) => k) (fun u (k, m2) => (rn 5 (some (.int .i64 (k : Nat)) :: rn 52 (sc u 58 34 [])))) (fun (k, m2) => (none :: [some (osl ad29 t.kids.length cap29 66 3 (ncL m2))])) (fun (k, m2) => []) (i, m) kr ?_ kr ?_ ?_
    · exact ⟨hm, II.zero ho⟩
    · exact subset_nil
    intro u i hC; obtain ⟨k, m2⟩ := i; obtain ⟨hm2, hI⟩ := hC; refine JC_nm 96 [box _ _ [_, _, _], osl _ _ _ _ _ _] [_, _, _] ?_
    have hml2 := hm2.length_eq
    have hki := hI.1
    refine JC_seq ?_; refine JC_seq ?_
    rcases Nat.eq_zero_or_pos k with hk | hk
    ·refine JC_drawT mixed 13 [spV 58 [] _, spV 59 [0] _, spV 60 [1] _, spV 61 [2] _, spV 62 [2] _, spV 63 [2, 3, 4] _, spV 64 [2, 5] _, spV 65 [2, 6] _, spV 66 [2] _, spV 67 [2] _, spV 68 [2, 9] _, spV 69 [2, 8, 10] _, spV 70 [2, 11] _] ⟨oM, OblS_V (fun vals ex ψ => (by refine JL_gtr rfl rfl ?_; rw [decide_eq_false (p := ((k : Nat) : Int) > 0) om]; exact vz rfl)), oM, oN, oN, oN, oN, oN, oN, oN, oN, oN, oN, trivial⟩ kr (fun vals bs => ?_)
     refine JL_normL [_, _, _] ⟨96, [(58, _), (59, _), (60, _), (61, _), (62, _), (63, _), (64, _), (65, _), (66, _), (67, _), (68, _), (69, _), (70, _)], _⟩ [box _ _ [_, _, _], osl _ _ _ _ _ _] [_, _, _] rfl rfl rfl rfl ?_; refine JL_gn ?_; refine JL_gn ?_; refine JL_pick_f rfl rfl ?_; refine JL_du 96 [box _ _ [_, _, _], osl _ _ _ _ _ _] [_, _, _] ?_; refine JC_false rfl ?_; refine JC_exit ?_; refine JE_then_exit ?_; refine JE_nextS_exit ?_; refine JE_block_exit ?_; refine JE_block_normal ?_; refine JE_then ?_; refine JC_region ?_; refine JL_m ?_; refine JL_add_to rfl rfl i6o ?_; refine JL_a ?_; refine JL_nv 96 ?_; refine JE_nextS (i + 1, m2) kr ?_ ?_ kr ?_
     · exact ⟨by omega, hm2, hI.stop0 hk⟩
     · first | omega | (dsimp only; omega)
     · exact subset_app subset_nil ss0
    ·refine JC_drawT mixed 13 [spV 58 [] _, spV 59 [0] _, spV 60 [1] _, spV 61 [2] _, spV 62 [2] _, spV 63 [2, 3, 4] _, spV 64 [2, 5] _, spC 65 [2, 6] _, spV 66 [2] _, spV 67 [2] _, spV 68 [2, 9] _, spV 69 [2, 8, 10] _, spV 70 [2, 11] _] ⟨oM, OblS_V (fun vals ex ψ => (by refine JL_gtr rfl rfl ?_; rw [decide_eq_true (p := ((k : Nat) : Int) > 0) om]; exact vz rfl)), oM, oG, oG, OblS_V (fun vals ex ψ => (by refine JL_normQ _ (_ :: _ :: _ :: ψ) rfl rfl ?_; refine JL_gy ?_; refine JL_indexAddr k sl64 rfl rfl rfl om (Reads.own 1 rfl) (by rw [ncL_len]; omega) ?_; exact vz rfl)), OblS_V (fun vals ex ψ => (by refine JL_normQ _ (_ :: _ :: _ :: ψ) rfl rfl ?_; refine JL_gy ?_; refine JL_loadEA (vs := [_, _, _]) ty66 zp rfl (Reads.own 1 rfl) (ncL_getA om) ?_; exact vz rfl)), OblS_C (fun vals ex ψ => (by refine JL_normQ ⟨96, [(58, _), (59, _), (60, _), (61, _), (62, _), (63, _), (64, _), (65, _), (66, _), (67, _), (68, _), (69, _), (70, _)], _⟩ (_ :: _ :: _ :: ψ) rfl rfl ?_; refine JL_gy ?_; refine JL_callF' (Asks.cons (by first | exact holds_of_mem am | (exact holds_of_own 1 rfl)) Asks.nil) (conN0 (rleast_con (m2.getD (k) default) (fitK hf _ (hm2.mem_iff.1 (at_mem (l := m2) (i := k) om)))) (hm2.mem_iff.1 (at_mem (l := m2) (i := k) om))) rfl ca77 ⟨rfl, rfl⟩ ?_; exact fun v φo hP => JL_nil (JE_stepC φo rfl hP (fun p hp => mapB_l hp) (fun p hp => mapB_r (ss0 p hp))))), oG, oG, OblS_V (fun vals ex ψ => (by refine JL_gy ?_; refine JL_sub_to rfl rfl i6o ?_; rw [show (((k : Nat) : Int) - 1 : Int) = ((k - 1 : Nat) : Int) from by omega]; exact vz rfl)), OblS_V (fun vals ex ψ => (by
       refine JL_normQ _ (_ :: _ :: _ :: ψ) rfl rfl ?_; refine JL_gy ?_; refine JL_indexAddr (k - 1) sl64 rfl rfl rfl om (Reads.own 1 rfl) (by rw [ncL_len]; omega) ?_; exact vz rfl)), OblS_V (fun vals ex ψ => (by refine JL_normQ _ (_ :: _ :: _ :: ψ) rfl rfl ?_; refine JL_gy ?_; refine JL_loadEA (vs := [_, _, _]) ty66 zp rfl (Reads.own 1 rfl) (ncL_getA om) ?_; exact vz rfl)), trivial⟩ kr (fun vals bs => ?_)
     refine JL_normL [_, _, _] ⟨96, [(58, _), (59, _), (60, _), (61, _), (62, _), (63, _), (64, _), (65, _), (66, _), (67, _), (68, _), (69, _), (70, _)], _⟩ [box _ _ [_, _, _], osl _ _ _ _ _ _] [_, _, _, _] rfl rfl rfl rfl ?_; generalize vals (0 + 1 + 1 + 1 + 1 + 1 + 1 + 1) = x65; refine JL_usePost mm0 (fun φo hP => ?_); obtain ⟨rfl, rfl⟩ := hP; refine JL_norm _ [box _ _ [_, _, _], osl _ _ _ _ _ _] [_, _, _, _] rfl rfl rfl ?_; refine JL_gy ?_; refine JL_callF' (Asks.cons (by first | exact holds_of_mem am | (exact holds_of_own 1 rfl)) Asks.nil) (conN0 (rleast_con (m2.getD (k - 1) default) (fitK hf _ (hm2.mem_iff.1 (at_mem (l := m2) (i := k - 1) om)))) (hm2.mem_iff.1 (at_mem (l := m2) (i := k - 1) om))) rfl ca77 ⟨rfl, rfl⟩ ?_; rintro _ _ ⟨rfl, rfl⟩; refine JL_gy ?_; refine JL_lss rfl rfl ?_; refine JL_split (fun h72 => ?_) (fun h72 => ?_)
     ·refine JL_pick_t rfl rfl ?_; refine JL_du 96 [box _ _ [_, _, _], osl _ _ _ _ _ _] [_, _, _, _] ?_; refine JC_true rfl ?_; refine JC_skip ?_; refine JE_then ?_; refine JC_seq ?_; refine JC_block ?_; refine JC_drawX mixed 15 [2, 3, 4] [([2, 3, 4], 5), ([2, 4], 4), ([2], 3), ([3, 4], 4), ([4], 3), ([], 2)] [spV 76 [] _, spV 77 [] _, spV 78 [] _, spV 79 [] _, spV 80 [3] _, spV 81 [] _, spV 82 [] _, spV 83 [6] _, spV 84 [5, 7] _, spV 85 [8] _, spV 86 [] _, spV 87 [] _, spV 88 [10, 11] _, spV 89 [12] _, spV 90 [0, 1] _] ⟨oM, oM, oM, oM, OblS_V (fun vals ex ψ => (by refine JL_sub_to rfl rfl i6o ?_; rw [show (((k : Nat) : Int) - 1 : Int) = ((k - 1 : Nat) : Int) from by omega]; exact vz rfl)), oM, oM, OblS_V (fun vals ex ψ => (by refine JL_sub_to rfl rfl i6o ?_; rw [show (((k : Nat) : Int) - 1 : Int) = ((k - 1 : Nat) : Int) from by omega]; exact vz rfl)), OblS_V (fun vals ex ψ => (by refine JL_normQ _ (_ :: _ :: _ :: _ :: ψ) rfl rfl ?_; refine JL_indexAddr (k - 1) sl64 rfl rfl rfl om (Reads.own 1 rfl) (by rw [ncL_len]; omega) ?_; exact vz rfl)), OblS_V (fun vals ex ψ => (by refine JL_normQ _ (_ :: _ :: _ :: _ :: ψ) rfl rfl ?_; refine JL_loadEA (vs := [_, _, _]) ty66 zp rfl (Reads.own 1 rfl) (ncL_getA om) ?_; exact vz rfl)), oM, oM, OblS_V (fun vals ex ψ => (by refine JL_normQ _ (_ :: _ :: _ :: _ :: ψ) rfl rfl ?_; refine JL_indexAddr k sl64 rfl rfl rfl om (Reads.own 1 rfl) (by rw [ncL_len]; omega) ?_; exact vz rfl)), OblS_V (fun vals ex ψ => (by refine JL_normQ _ (_ :: _ :: _ :: _ :: ψ) rfl rfl ?_; refine JL_loadEA (vs := [_, _, _]) ty66 zp rfl (Reads.own 1 rfl) (ncL_getA om) ?_; exact vz rfl)), OblS_V (fun vals ex ψ => (by
        refine JL_normQ _ (_ :: _ :: _ :: _ :: ψ) rfl rfl ?_; refine JL_indexAddr k sl64 rfl rfl rfl om (Reads.own 1 rfl) (by rw [ncL_len]; omega) ?_; exact vz rfl)), trivial⟩ kr rfl rfl ⟨fun vals bs r => ?_, fun vals bs r => ?_, fun vals bs r => ?_, fun vals bs r => ?_, fun vals bs r => ?_, fun vals bs r => ?_, trivial⟩
      ·refine JL_normL [_] ⟨96, [(76, _), (77, _), (78, _), (79, _), (80, _), (81, _), (82, _), (83, _), (84, _), (85, _), (86, _), (87, _), (88, _), (89, _), (90, _)], _⟩ [box _ _ [_, _, _], osl _ _ _ _ _ _] [_, _, _, _, _, _, _] rfl rfl rfl rfl ?_; generalize vals (0 + 1 + 1) = x78; generalize vals (0 + 1 + 1 + 1) = x79; generalize vals (0 + 1 + 1 + 1 + 1) = x80; refine JL_storeE (vs := [_, _, _]) 1 ty66 zp rfl rfl rfl ao3 rfl (by rw [ncL_len]; (try rw [List.length_set]); simp only [List.length_cons, List.length_nil]; omega) ?_; refine JL_norm _ [box _ _ [_, _, _], osl _ _ _ _ _ (setAll (ncL m2) (k * 3) (nc (m2.getD (k - 1) default)))] _ rfl rfl rfl ?_; rw [ncL_set _ _ _ om]; refine JL_nu 96 [box _ _ [_, _, _], osl _ _ _ _ _ _] [_, _, _, _, _, _, _] ?_; refine JE_nextA ?_; refine JA_step [2, 3] kr (by simp) ⟨⟨_, rfl, ?_⟩, ⟨_, rfl, ?_⟩, trivial⟩
       ·refine JL_m ?_; refine JL_nil ?_; refine JE_nA 3 ?_; refine JL_m ?_; refine JL_nil ?_; refine JE_nA 4 ?_; refine JL_sub_to rfl rfl i6o ?_; rw [show (((k : Nat) : Int) - 1 : Int) = ((k - 1 : Nat) : Int) from by omega]; refine JL_nu 96 [box _ _ [_, _, _], osl _ _ _ _ _ _] [_, _, _, _, _, _, _] ?_; refine JE_nA 16 ?_; refine JL_indexAddr (k - 1) sl64 rfl rfl rfl om (Reads.own 1 rfl) (by rw [ncL_len, List.length_set]; omega) ?_; refine JL_nu 96 [box _ _ [_, _, _], osl _ _ _ _ _ _] [_, _, _, _, _, _, _] ?_; refine JE_nA 17 ?_; refine JL_storeE (vs := [_, _, _]) 1 ty66 zp rfl rfl rfl ao3 rfl (by rw [ncL_len]; (try rw [List.length_set]); simp only [List.length_cons, List.length_nil]; omega) ?_
        refine JL_norm _ [box _ _ [_, _, _], osl _ _ _ _ _ (setAll (ncL (m2.set k (m2.getD (k - 1) default))) ((k - 1) * 3) (nc (m2.getD k default)))] _ rfl rfl rfl ?_; rw [ncL_set _ _ _ (by rw [List.length_set]; omega)]; refine JL_nu 96 [box _ _ [_, _, _], osl _ _ _ _ _ _] [_, _, _, _, _, _, _] ?_; refine JE_nextA ?_; refine JA_end kr ?_; refine JE_block_normal ?_; refine JE_then ?_; refine JC_region ?_; refine JL_m ?_; refine JL_sub_to rfl rfl i6o ?_; rw [show (((k : Nat) : Int) - 1 : Int) = ((k - 1 : Nat) : Int) from by omega]; refine JL_a ?_; refine JL_nu 96 [box _ _ [_, _, _], osl _ _ _ _ _ _] [_, _, _, _, _, _, _] ?_; refine JE_nextS (k - 1, (m2.set k (m2.getD (k - 1) default)).set (k - 1) (m2.getD k default)) kr ?_ ?_ kr ?_
        · exact ⟨(swap_perm' om om).trans hm2, hI.swap om om om⟩
        · first | omega | (dsimp only; omega)
        · exact subset_app subset_nil (ssS (ssS (ssS (ssS ss0))))
       ·refine JL_m ?_; refine JL_nil ?_; refine JE_nextA ?_; refine JA_step [2, 4] kr (by simp) ⟨⟨_, rfl, ?_⟩, ⟨_, rfl, ?_⟩, trivial⟩
        ·refine JL_m ?_; refine JL_nil ?_; refine JE_nA 4 ?_; refine JL_sub_to rfl rfl i6o ?_; rw [show (((k : Nat) : Int) - 1 : Int) = ((k - 1 : Nat) : Int) from by omega]; refine JL_nu 96 [box _ _ [_, _, _], osl _ _ _ _ _ _] [_, _, _, _, _, _, _] ?_; refine JE_nA 16 ?_; refine JL_indexAddr (k - 1) sl64 rfl rfl rfl om (Reads.own 1 rfl) (by rw [ncL_len, List.length_set]; omega) ?_; refine JL_nu 96 [box _ _ [_, _, _], osl _ _ _ _ _ _] [_, _, _, _, _, _, _] ?_; refine JE_nA 17 ?_; refine JL_storeE (vs := [_, _, _]) 1 ty66 zp rfl rfl rfl ao3 rfl (by rw [ncL_len]; (try rw [List.length_set]); simp only [List.length_cons, List.length_nil]; omega) ?_; refine JL_norm _ [box _ _ [_, _, _], osl _ _ _ _ _ (setAll (ncL (m2.set k (m2.getD (k - 1) default))) ((k - 1) * 3) (nc (m2.getD k default)))] _ rfl rfl rfl ?_; rw [ncL_set _ _ _ (by rw [List.length_set]; omega)]
         refine JL_nu 96 [box _ _ [_, _, _], osl _ _ _ _ _ _] [_, _, _, _, _, _, _] ?_; refine JE_nextA ?_; refine JA_end kr ?_; refine JE_block_normal ?_; refine JE_then ?_; refine JC_region ?_; refine JL_m ?_; refine JL_sub_to rfl rfl i6o ?_; rw [show (((k : Nat) : Int) - 1 : Int) = ((k - 1 : Nat) : Int) from by omega]; refine JL_a ?_; refine JL_nu 96 [box _ _ [_, _, _], osl _ _ _ _ _ _] [_, _, _, _, _, _, _] ?_; refine JE_nextS (k - 1, (m2.set k (m2.getD (k - 1) default)).set (k - 1) (m2.getD k default)) kr ?_ ?_ kr ?_
         · exact ⟨(swap_perm' om om).trans hm2, hI.swap om om om⟩
         · first | omega | (dsimp only; omega)
         · exact subset_app subset_nil (ssS (ssS (ssS (ssS ss0))))
        ·refine JL_sub_to rfl rfl i6o ?_; rw [show (((k : Nat) : Int) - 1 : Int) = ((k - 1 : Nat) : Int) from by omega]; refine JL_nu 96 [box _ _ [_, _, _], osl _ _ _ _ _ _] [_, _, _, _, _, _, _] ?_; refine JE_nA 2 ?_; refine JL_m ?_; refine JL_nil ?_; refine JE_nA 16 ?_; refine JL_indexAddr (k - 1) sl64 rfl rfl rfl om (Reads.own 1 rfl) (by rw [ncL_len, List.length_set]; omega) ?_; refine JL_nu 96 [box _ _ [_, _, _], osl _ _ _ _ _ _] [_, _, _, _, _, _, _] ?_; refine JE_nA 17 ?_; refine JL_storeE (vs := [_, _, _]) 1 ty66 zp rfl rfl rfl ao3 rfl (by rw [ncL_len]; (try rw [List.length_set]); simp only [List.length_cons, List.length_nil]; omega) ?_; refine JL_norm _ [box _ _ [_, _, _], osl _ _ _ _ _ (setAll (ncL (m2.set k (m2.getD (k - 1) default))) ((k - 1) * 3) (nc (m2.getD k default)))] _ rfl rfl rfl ?_; rw [ncL_set _ _ _ (by rw [List.length_set]; omega)]
         refine JL_nu 96 [box _ _ [_, _, _], osl _ _ _ _ _ _] [_, _, _, _, _, _, _] ?_; refine JE_nextA ?_; refine JA_end kr ?_; refine JE_block_normal ?_; refine JE_then ?_; refine JC_region ?_; refine JL_m ?_; refine JL_sub_to rfl rfl i6o ?_; rw [show (((k : Nat) : Int) - 1 : Int) = ((k - 1 : Nat) : Int) from by omega]; refine JL_a ?_; refine JL_nu 96 [box _ _ [_, _, _], osl _ _ _ _ _ _] [_, _, _, _, _, _, _] ?_; refine JE_nextS (k - 1, (m2.set k (m2.getD (k - 1) default)).set (k - 1) (m2.getD k default)) kr ?_ ?_ kr ?_
         · exact ⟨(swap_perm' om om).trans hm2, hI.swap om om om⟩
         · first | omega | (dsimp only; omega)
         · exact subset_app subset_nil (ssS (ssS (ssS (ssS ss0))))
      ·refine JL_normL [_] ⟨96, [(76, _), (77, _), (78, _), (79, _), (80, _), (81, _), (82, _), (83, _), (84, _), (85, _), (86, _), (87, _), (88, _), (89, _), (90, _)], _⟩ [box _ _ [_, _, _], osl _ _ _ _ _ _] [_, _, _, _, _, _] rfl rfl rfl rfl ?_; generalize vals (0 + 1 + 1) = x78; generalize vals (0 + 1 + 1 + 1 + 1) = x80; refine JL_storeE (vs := [_, _, _]) 1 ty66 zp rfl rfl rfl ao3 rfl (by rw [ncL_len]; (try rw [List.length_set]); simp only [List.length_cons, List.length_nil]; omega) ?_; refine JL_norm _ [box _ _ [_, _, _], osl _ _ _ _ _ (setAll (ncL m2) (k * 3) (nc (m2.getD (k - 1) default)))] _ rfl rfl rfl ?_; rw [ncL_set _ _ _ om]; refine JL_nu 96 [box _ _ [_, _, _], osl _ _ _ _ _ _] [_, _, _, _, _, _] ?_; refine JE_nextA ?_; refine JA_step [2, 4] kr (by simp) ⟨⟨_, rfl, ?_⟩, ⟨_, rfl, ?_⟩, trivial⟩
       ·refine JL_m ?_; refine JL_nil ?_; refine JE_nA 4 ?_; refine JL_sub_to rfl rfl i6o ?_; rw [show (((k : Nat) : Int) - 1 : Int) = ((k - 1 : Nat) : Int) from by omega]; refine JL_nu 96 [box _ _ [_, _, _], osl _ _ _ _ _ _] [_, _, _, _, _, _] ?_; refine JE_nA 16 ?_; refine JL_indexAddr (k - 1) sl64 rfl rfl rfl om (Reads.own 1 rfl) (by rw [ncL_len, List.length_set]; omega) ?_; refine JL_nu 96 [box _ _ [_, _, _], osl _ _ _ _ _ _] [_, _, _, _, _, _] ?_; refine JE_nA 17 ?_; refine JL_storeE (vs := [_, _, _]) 1 ty66 zp rfl rfl rfl ao3 rfl (by rw [ncL_len]; (try rw [List.length_set]); simp only [List.length_cons, List.length_nil]; omega) ?_; refine JL_norm _ [box _ _ [_, _, _], osl _ _ _ _ _ (setAll (ncL (m2.set k (m2.getD (k - 1) default))) ((k - 1) * 3) (nc (m2.getD k default)))] _ rfl rfl rfl ?_; rw [ncL_set _ _ _ (by rw [List.length_set]; omega)]
        refine JL_nu 96 [box _ _ [_, _, _], osl _ _ _ _ _ _] [_, _, _, _, _, _] ?_; refine JE_nextA ?_; refine JA_end kr ?_; refine JE_block_normal ?_; refine JE_then ?_; refine JC_region ?_; refine JL_m ?_; refine JL_sub_to rfl rfl i6o ?_; rw [show (((k : Nat) : Int) - 1 : Int) = ((k - 1 : Nat) : Int) from by omega]; refine JL_a ?_; refine JL_nu 96 [box _ _ [_, _, _], osl _ _ _ _ _ _] [_, _, _, _, _, _] ?_; refine JE_nextS (k - 1, (m2.set k (m2.getD (k - 1) default)).set (k - 1) (m2.getD k default)) kr ?_ ?_ kr ?_
        · exact ⟨(swap_perm' om om).trans hm2, hI.swap om om om⟩
        · first | omega | (dsimp only; omega)
        · exact subset_app subset_nil (ssS (ssS (ssS ss0)))
       ·refine JL_sub_to rfl rfl i6o ?_; rw [show (((k : Nat) : Int) - 1 : Int) = ((k - 1 : Nat) : Int) from by omega]; refine JL_nu 96 [box _ _ [_, _, _], osl _ _ _ _ _ _] [_, _, _, _, _, _] ?_; refine JE_nA 2 ?_; refine JL_m ?_; refine JL_nil ?_; refine JE_nA 16 ?_; refine JL_indexAddr (k - 1) sl64 rfl rfl rfl om (Reads.own 1 rfl) (by rw [ncL_len, List.length_set]; omega) ?_; refine JL_nu 96 [box _ _ [_, _, _], osl _ _ _ _ _ _] [_, _, _, _, _, _] ?_; refine JE_nA 17 ?_; refine JL_storeE (vs := [_, _, _]) 1 ty66 zp rfl rfl rfl ao3 rfl (by rw [ncL_len]; (try rw [List.length_set]); simp only [List.length_cons, List.length_nil]; omega) ?_; refine JL_norm _ [box _ _ [_, _, _], osl _ _ _ _ _ (setAll (ncL (m2.set k (m2.getD (k - 1) default))) ((k - 1) * 3) (nc (m2.getD k default)))] _ rfl rfl rfl ?_; rw [ncL_set _ _ _ (by rw [List.length_set]; omega)]
        refine JL_nu 96 [box _ _ [_, _, _], osl _ _ _ _ _ _] [_, _, _, _, _, _] ?_; refine JE_nextA ?_; refine JA_end kr ?_; refine JE_block_normal ?_; refine JE_then ?_; refine JC_region ?_; refine JL_m ?_; refine JL_sub_to rfl rfl i6o ?_; rw [show (((k : Nat) : Int) - 1 : Int) = ((k - 1 : Nat) : Int) from by omega]; refine JL_a ?_; refine JL_nu 96 [box _ _ [_, _, _], osl _ _ _ _ _ _] [_, _, _, _, _, _] ?_; refine JE_nextS (k - 1, (m2.set k (m2.getD (k - 1) default)).set (k - 1) (m2.getD k default)) kr ?_ ?_ kr ?_
        · exact ⟨(swap_perm' om om).trans hm2, hI.swap om om om⟩
        · first | omega | (dsimp only; omega)
        · exact subset_app subset_nil (ssS (ssS (ssS ss0)))
      ·refine JL_normL [_] ⟨96, [(76, _), (77, _), (78, _), (79, _), (80, _), (81, _), (82, _), (83, _), (84, _), (85, _), (86, _), (87, _), (88, _), (89, _), (90, _)], _⟩ [box _ _ [_, _, _], osl _ _ _ _ _ _] [_, _, _, _, _] rfl rfl rfl rfl ?_; generalize vals (0 + 1 + 1) = x78; refine JL_storeE (vs := [_, _, _]) 1 ty66 zp rfl rfl rfl ao3 rfl (by rw [ncL_len]; (try rw [List.length_set]); simp only [List.length_cons, List.length_nil]; omega) ?_; refine JL_norm _ [box _ _ [_, _, _], osl _ _ _ _ _ (setAll (ncL m2) (k * 3) (nc (m2.getD (k - 1) default)))] _ rfl rfl rfl ?_; rw [ncL_set _ _ _ om]; refine JL_nu 96 [box _ _ [_, _, _], osl _ _ _ _ _ _] [_, _, _, _, _] ?_; refine JE_nA 2 ?_; refine JL_m ?_; refine JL_nil ?_; refine JE_nA 16 ?_; refine JL_indexAddr (k - 1) sl64 rfl rfl rfl om (Reads.own 1 rfl) (by rw [ncL_len, List.length_set]; omega) ?_; refine JL_nu 96 [box _ _ [_, _, _], osl _ _ _ _ _ _] [_, _, _, _, _] ?_; refine JE_nA 17 ?_; refine JL_storeE (vs := [_, _, _]) 1 ty66 zp rfl rfl rfl ao3 rfl (by rw [ncL_len]; (try rw [List.length_set]); simp only [List.length_cons, List.length_nil]; omega) ?_; refine JL_norm _ [box _ _ [_, _, _], osl _ _ _ _ _ (setAll (ncL (m2.set k (m2.getD (k - 1) default))) ((k - 1) * 3) (nc (m2.getD k default)))] _ rfl rfl rfl ?_; rw [ncL_set _ _ _ (by rw [List.length_set]; omega)]; refine JL_nu 96 [box _ _ [_, _, _], osl _ _ _ _ _ _] [_, _, _, _, _] ?_; refine JE_nextA ?_; refine JA_end kr ?_; refine JE_block_normal ?_; refine JE_then ?_; refine JC_region ?_; refine JL_m ?_; refine JL_sub_to rfl rfl i6o ?_; rw [show (((k : Nat) : Int) - 1 : Int) = ((k - 1 : Nat) : Int) from by omega]; refine JL_a ?_; refine JL_nu 96 [box _ _ [_, _, _], osl _ _ _ _ _ _] [_, _, _, _, _] ?_; refine JE_nextS (k - 1, (m2.set k (m2.getD (k - 1) default)).set (k - 1) (m2.getD k default)) kr ?_ ?_ kr ?_
       · exact ⟨(swap_perm' om om).trans hm2, hI.swap om om om⟩
       · first | omega | (dsimp only; omega)
       · exact subset_app subset_nil (ssS (ssS ss0))
      ·refine JL_normL [_] ⟨96, [(76, _), (77, _), (78, _), (79, _), (80, _), (81, _), (82, _), (83, _), (84, _), (85, _), (86, _), (87, _), (88, _), (89, _), (90, _)], _⟩ [box _ _ [_, _, _], osl _ _ _ _ _ _] [_, _, _, _, _, _] rfl rfl rfl rfl ?_; generalize vals (0 + 1 + 1 + 1) = x79; generalize vals (0 + 1 + 1 + 1 + 1) = x80; refine JL_storeE (vs := [_, _, _]) 1 ty66 zp rfl rfl rfl ao3 rfl (by rw [ncL_len]; (try rw [List.length_set]); simp only [List.length_cons, List.length_nil]; omega) ?_; refine JL_norm _ [box _ _ [_, _, _], osl _ _ _ _ _ (setAll (ncL m2) (k * 3) (nc (m2.getD (k - 1) default)))] _ rfl rfl rfl ?_; rw [ncL_set _ _ _ om]; refine JL_nu 96 [box _ _ [_, _, _], osl _ _ _ _ _ _] [_, _, _, _, _, _] ?_; refine JE_nA 3 ?_; refine JL_m ?_; refine JL_nil ?_; refine JE_nA 4 ?_; refine JL_sub_to rfl rfl i6o ?_; rw [show (((k : Nat) : Int) - 1 : Int) = ((k - 1 : Nat) : Int) from by omega]
       refine JL_nu 96 [box _ _ [_, _, _], osl _ _ _ _ _ _] [_, _, _, _, _, _] ?_; refine JE_nA 16 ?_; refine JL_indexAddr (k - 1) sl64 rfl rfl rfl om (Reads.own 1 rfl) (by rw [ncL_len, List.length_set]; omega) ?_; refine JL_nu 96 [box _ _ [_, _, _], osl _ _ _ _ _ _] [_, _, _, _, _, _] ?_; refine JE_nA 17 ?_; refine JL_storeE (vs := [_, _, _]) 1 ty66 zp rfl rfl rfl ao3 rfl (by rw [ncL_len]; (try rw [List.length_set]); simp only [List.length_cons, List.length_nil]; omega) ?_; refine JL_norm _ [box _ _ [_, _, _], osl _ _ _ _ _ (setAll (ncL (m2.set k (m2.getD (k - 1) default))) ((k - 1) * 3) (nc (m2.getD k default)))] _ rfl rfl rfl ?_; rw [ncL_set _ _ _ (by rw [List.length_set]; omega)]; refine JL_nu 96 [box _ _ [_, _, _], osl _ _ _ _ _ _] [_, _, _, _, _, _] ?_; refine JE_nextA ?_; refine JA_end kr ?_; refine JE_block_normal ?_; refine JE_then ?_; refine JC_region ?_; refine JL_m ?_; refine JL_sub_to rfl rfl i6o ?_
       rw [show (((k : Nat) : Int) - 1 : Int) = ((k - 1 : Nat) : Int) from by omega]; refine JL_a ?_; refine JL_nu 96 [box _ _ [_, _, _], osl _ _ _ _ _ _] [_, _, _, _, _, _] ?_; refine JE_nextS (k - 1, (m2.set k (m2.getD (k - 1) default)).set (k - 1) (m2.getD k default)) kr ?_ ?_ kr ?_
       · exact ⟨(swap_perm' om om).trans hm2, hI.swap om om om⟩
       · first | omega | (dsimp only; omega)
       · exact subset_app subset_nil (ssS (ssS (ssS ss0)))
      ·refine JL_normL [_] ⟨96, [(76, _), (77, _), (78, _), (79, _), (80, _), (81, _), (82, _), (83, _), (84, _), (85, _), (86, _), (87, _), (88, _), (89, _), (90, _)], _⟩ [box _ _ [_, _, _], osl _ _ _ _ _ _] [_, _, _, _, _] rfl rfl rfl rfl ?_; generalize vals (0 + 1 + 1 + 1 + 1) = x80; refine JL_storeE (vs := [_, _, _]) 1 ty66 zp rfl rfl rfl ao3 rfl (by rw [ncL_len]; (try rw [List.length_set]); simp only [List.length_cons, List.length_nil]; omega) ?_; refine JL_norm _ [box _ _ [_, _, _], osl _ _ _ _ _ (setAll (ncL m2) (k * 3) (nc (m2.getD (k - 1) default)))] _ rfl rfl rfl ?_; rw [ncL_set _ _ _ om]; refine JL_nu 96 [box _ _ [_, _, _], osl _ _ _ _ _ _] [_, _, _, _, _] ?_; refine JE_nA 4 ?_; refine JL_sub_to rfl rfl i6o ?_; rw [show (((k : Nat) : Int) - 1 : Int) = ((k - 1 : Nat) : Int) from by omega]; refine JL_nu 96 [box _ _ [_, _, _], osl _ _ _ _ _ _] [_, _, _, _, _] ?_; refine JE_nA 16 ?_
       refine JL_indexAddr (k - 1) sl64 rfl rfl rfl om (Reads.own 1 rfl) (by rw [ncL_len, List.length_set]; omega) ?_; refine JL_nu 96 [box _ _ [_, _, _], osl _ _ _ _ _ _] [_, _, _, _, _] ?_; refine JE_nA 17 ?_; refine JL_storeE (vs := [_, _, _]) 1 ty66 zp rfl rfl rfl ao3 rfl (by rw [ncL_len]; (try rw [List.length_set]); simp only [List.length_cons, List.length_nil]; omega) ?_; refine JL_norm _ [box _ _ [_, _, _], osl _ _ _ _ _ (setAll (ncL (m2.set k (m2.getD (k - 1) default))) ((k - 1) * 3) (nc (m2.getD k default)))] _ rfl rfl rfl ?_; rw [ncL_set _ _ _ (by rw [List.length_set]; omega)]; refine JL_nu 96 [box _ _ [_, _, _], osl _ _ _ _ _ _] [_, _, _, _, _] ?_; refine JE_nextA ?_; refine JA_end kr ?_; refine JE_block_normal ?_; refine JE_then ?_; refine JC_region ?_; refine JL_m ?_; refine JL_sub_to rfl rfl i6o ?_; rw [show (((k : Nat) : Int) - 1 : Int) = ((k - 1 : Nat) : Int) from by omega]; refine JL_a ?_
       refine JL_nu 96 [box _ _ [_, _, _], osl _ _ _ _ _ _] [_, _, _, _, _] ?_; refine JE_nextS (k - 1, (m2.set k (m2.getD (k - 1) default)).set (k - 1) (m2.getD k default)) kr ?_ ?_ kr ?_
       · exact ⟨(swap_perm' om om).trans hm2, hI.swap om om om⟩
       · first | omega | (dsimp only; omega)
       · exact subset_app subset_nil (ssS (ssS ss0))
      ·refine JL_normL [_] ⟨96, [(76, _), (77, _), (78, _), (79, _), (80, _), (81, _), (82, _), (83, _), (84, _), (85, _), (86, _), (87, _), (88, _), (89, _), (90, _)], _⟩ [box _ _ [_, _, _], osl _ _ _ _ _ _] [_, _, _, _] rfl rfl rfl rfl ?_; refine JL_storeE (vs := [_, _, _]) 1 ty66 zp rfl rfl rfl ao3 rfl (by rw [ncL_len]; (try rw [List.length_set]); simp only [List.length_cons, List.length_nil]; omega) ?_; refine JL_norm _ [box _ _ [_, _, _], osl _ _ _ _ _ (setAll (ncL m2) (k * 3) (nc (m2.getD (k - 1) default)))] _ rfl rfl rfl ?_; rw [ncL_set _ _ _ om]; refine JL_nu 96 [box _ _ [_, _, _], osl _ _ _ _ _ _] [_, _, _, _] ?_; refine JE_nA 16 ?_; refine JL_indexAddr (k - 1) sl64 rfl rfl rfl om (Reads.own 1 rfl) (by rw [ncL_len, List.length_set]; omega) ?_; refine JL_nu 96 [box _ _ [_, _, _], osl _ _ _ _ _ _] [_, _, _, _] ?_; refine JE_nA 17 ?_
       refine JL_storeE (vs := [_, _, _]) 1 ty66 zp rfl rfl rfl ao3 rfl (by rw [ncL_len]; (try rw [List.length_set]); simp only [List.length_cons, List.length_nil]; omega) ?_; refine JL_norm _ [box _ _ [_, _, _], osl _ _ _ _ _ (setAll (ncL (m2.set k (m2.getD (k - 1) default))) ((k - 1) * 3) (nc (m2.getD k default)))] _ rfl rfl rfl ?_; rw [ncL_set _ _ _ (by rw [List.length_set]; omega)]; refine JL_nu 96 [box _ _ [_, _, _], osl _ _ _ _ _ _] [_, _, _, _] ?_; refine JE_nextA ?_; refine JA_end kr ?_; refine JE_block_normal ?_; refine JE_then ?_; refine JC_region ?_; refine JL_m ?_; refine JL_sub_to rfl rfl i6o ?_; rw [show (((k : Nat) : Int) - 1 : Int) = ((k - 1 : Nat) : Int) from by omega]; refine JL_a ?_; refine JL_nu 96 [box _ _ [_, _, _], osl _ _ _ _ _ _] [_, _, _, _] ?_; refine JE_nextS (k - 1, (m2.set k (m2.getD (k - 1) default)).set (k - 1) (m2.getD k default)) kr ?_ ?_ kr ?_
       · exact ⟨(swap_perm' om om).trans hm2, hI.swap om om om⟩
       · first | omega | (dsimp only; omega)
       · exact subset_app subset_nil (ssS ss0)
     ·refine JL_pick_t rfl rfl ?_; refine JL_du 96 [box _ _ [_, _, _], osl _ _ _ _ _ _] [_, _, _, _] ?_; refine JC_false rfl ?_; refine JC_exit ?_; refine JE_then_exit ?_; refine JE_nextS_exit ?_; refine JE_block_exit ?_; refine JE_block_normal ?_; refine JE_then ?_; refine JC_region ?_; refine JL_m ?_; refine JL_add_to rfl rfl i6o ?_; refine JL_a ?_; refine JL_nv 96 ?_; refine JE_nextS (i + 1, m2) kr ?_ ?_ kr ?_
      · exact ⟨by omega, hm2, hI.stop om om⟩
      · first | omega | (dsimp only; omega)
      · exact subset_app subset_nil (ssS ss0)
   ·refine JL_dv 96 ?_; refine JC_false rfl ?_; refine JC_exit ?_; refine JE_then_exit ?_; refine JE_nextS_exit ?_; refine JE_block_exit ?_; refine JE_then ?_; refine JC_seq ?_; obtain rfl : i = t.kids.length := by omega
    have hmm : ∀ k ∈ m, k ∈ t.kids := fun k hk => hm.mem_iff.1 hk
    have hmN : nA m = nA t.kids := nl_perm (hm.map er)
    have hmz := txs_len (fun k hk => fitK hf k (hmm k hk)) (fun k hk => hx1 k (hmm k hk))
    have hmb := bs_size (txs m)
    rw [← hml] at hc29 ⊢; refine JC_region ?_; refine JL_m ?_; refine JL_give 1 rfl ?_; refine JL_norm _ [box _ _ [_, _, _]] [_, _, _, _] rfl rfl rfl ?_; refine JL_nSub (f := true) (l := t.kids) (m := m) am hmm ?_; refine JL_callA' true (AsksA.cons (holdsA_of_mem am) (AsksA.cons (holdsA_of_mem am) AsksA.nil)) (rtexts_con (l := m) (fun k hk => fitK hf k (hmm k hk)) (fun k hk => hx1 k (hmm k hk)) om (fun k hk => IH k (hmm k hk))) rfl ca79 ⟨rfl, rfl⟩ ?_; rintro _ _ ⟨rfl, rfl⟩; refine JL_addS (a := Pq.bs [40]) rfl rfl (by rw [bs_size, bs_size]; show 1 + _ ≤ _; omega) ?_; rw [bs_app]; refine JL_addS (b := Pq.bs [41]) rfl rfl (by rw [bs_size, bs_size, List.length_append]; show 1 + _ + 1 ≤ _; omega) ?_; rw [bs_app]; refine JL_a ?_; refine JL_du 96 [box _ _ [_, _, _]] [_, _, _, _, _] ?_; refine JC_ret ?_; refine JE_ret (vs := [_]) [] Tryz.results42 ⟨rfl, rfl⟩ ?_ ?_
    · rw [tx_P hf hn hk0 hq hm (by rw [hml]; exact ho)]; exact ⟨rfl, rfl⟩
    · exact all_nil

theorem rtext_con (t : AT) : Fit t → (lvs (er t)).Nodup → (∀ x ∈ lvs (er t), x < 16) → (lvs (er t)).length ≤ 1000 → ConA Tryz.prog 42 [nval t] [vN t] (fun v φo => v = .string (bs (tx (t))) ∧ φo = []) := by
  induction t using AT.indP with
  | h t ih => exact fun hf hn hx hL => rtext_con0 hf hn hx hL fun k hk => ih k hk (fitK hf k hk) (kidsNd hn k hk) (kidsLt hx k hk) (by
      have h1 : t.kids.length ≠ 0 := fun e => by rw [List.length_eq_zero_iff.1 e] at hk; cases hk
      rw [nA_kn h1] at hL
      have := nA_mem hk
      omega)

set_option maxHeartbeats 2000000 in
theorem rords_con0 {t : AT} (hf : Fit t) (hL : (lvs (er t)).length ≤ 1000)
    (IH : ∀ k ∈ t.kids, ConF Tryz.prog 44 [nval k] [vN k] (LN (cntT (er k)))) :
    ConF Tryz.prog 44 [nval t] [vN t]
      (LN (cntT (er t))) := by
 have hln := fitL hf
 have hnA := nA_kids hL
 refine ConF_of Tryz.func44 rfl 35 (_ :: rp 34) rfl rfl ?_; intro w0; refine JC_st [] [_] ?_; refine JC_sr ?_; refine JL_box rfl rfl (fun b1 => ?_); refine JL_alloc z39 (fun b2 => ?_); refine JL_du 35 [box _ _ [_, _, _], box _ _ [_]] [_] ?_; refine JC_seq ?_; refine JC_nOpen (f := false) (t := t) am ?_; refine JC_region ?_; refine JL_callF' Asks.nil (rof_con 1 om) rfl ca81 ⟨rfl, rfl⟩ ?_; rintro _ _ ⟨ad5, cap5, rfl, hk5, hm5, rfl⟩; refine JL_alloc z39 (fun b3 => ?_); refine JL_store (vs := [_]) 2 ty39 rfl rfl rfl ao1 rfl bleq ?_; refine JL_du 35 [box _ _ [_, _, _], box _ _ [_], box _ _ [_]] [_, _, _, _] ?_; refine JC_seq ?_; refine JC_sr ?_; refine JL_fieldAddr fo66_0 rfl ?_; refine JL_load 0 ty3 rfl rfl rfl ?_; refine JL_eql rfl rfl ?_; refine JL_dv 35 ?_
 refine JC_cutT ((Nat) × (Option Addr) × (Nat)) (fun (dv, adx, cx) => dv = dl t ∧ ((limbsOf dv).length ≤ cx ∧ cx ≤ 9223372036854775807)) (fun u (dv, adx, cx) => (rn 9 (some (u 9) :: []))) (fun (dv, adx, cx) => (rn 2 [some (box b3 39 [.slice adx (limbsOf dv).length cx])])) (fun (dv, adx, cx) => [(true, vCells adx (u32s (limbsOf dv)))]) ?_ ?_
 ·refine JC_cond rfl (fun hb => ?_) (fun hb => ?_)
  ·have h8 := of_decide_eq_true hb
   refine JC_region ?_; refine JL_callF' Asks.nil (rof_con 2 om) rfl ca81 ⟨rfl, rfl⟩ ?_; rintro _ _ ⟨ad9, cap9, rfl, hk9, hm9, rfl⟩; refine JL_store (vs := [_]) 2 ty39 rfl rfl rfl ao1 rfl bleq ?_; refine JL_nu 35 [box _ _ [_, _, _], box _ _ [_], box _ _ [_]] [_, _, _, _, _] ?_; refine JE_midS (2, ad9, cap9) kr ?_ kr ?_
   · exact ⟨(dl_two h8).symm, hk9, hm9⟩
   · exact subset_app (subset_cons am subset_nil) (ssS ss0)
  ·have h8 := of_decide_eq_false hb
   refine JC_skip ?_; refine JE_midS (1, ad5, cap5) kr ?_ kr ?_
   · exact ⟨(dl_one hf h8).symm, hk5, hm5⟩
   · exact subset_app (subset_cons am subset_nil) ss0
 intro u i hC; obtain ⟨dv, adx, cx⟩ := i; obtain ⟨hdv, hcx⟩ := hC; refine JC_nm 35 [box _ _ [_, _, _], box _ _ [_], box _ _ [_]] [_, _, _, _, _] ?_
 have hdl : (limbsOf dv).length ≤ 1 := limbs_small (by rw [hdv]; exact dl_le t)
 refine JC_seq ?_; refine JC_sr ?_; refine JL_a ?_; refine JL_dv 35 ?_; refine JC_block ?_; refine JC_loopS ((Nat) × (Nat) × (Nat) × (Option Addr) × (Nat)) (fun (i, o, x, ad3, c3) => i ≤ t.kids.length ∧ CI t.line t.kids i o ∧ x = o * dv ∧ ((limbsOf x).length ≤ c3 ∧ c3 ≤ 9223372036854775807)) (fun (i, o, x, ad3, c3) => t.kids.length - i) (fun u (i, o, x, ad3, c3) => (rn 4 (some (.int .i64 (i : Nat)) :: rn 5 (sc u 10 24 [])))) (fun (i, o, x, ad3, c3) => (rn 2 [some (box b3 39 [.slice ad3 (limbsOf x).length c3])])) (fun (i, o, x, ad3, c3) => [(true, vCells ad3 (u32s (limbsOf x)))]) (0, 1, dv, adx, cx) kr ?_ kr ?_ ?_
 · exact ⟨Nat.zero_le _, CI.zero _ _, (Nat.one_mul dv).symm, hcx⟩
 · exact (subset_cons am subset_nil)
 intro u i hC; obtain ⟨i, o, x, ad3, c3⟩ := i; obtain ⟨hi, hO, hxo, hc3⟩ := hC; refine JC_nm 35 [box _ _ [_, _, _], box _ _ [_], box _ _ [_]] [_, _, _, _, _, _] ?_
 have hob := hO.le hnA (fitK hf)
 have hxb := len_limbsOf_mul o dv
 rw [← hxo] at hxb; refine JC_seq ?_; refine JC_sr ?_; refine JL_m ?_; refine JL_fieldAddr fo66_2 rfl ?_; refine JL_load 0 ty64 rfl rfl rfl ?_; refine JL_len sl64 rfl ?_; refine JL_lss rfl rfl ?_; refine JL_split (fun h14 => ?_) (fun h14 => ?_)
 ·refine JL_dv 35 ?_; refine JC_true rfl ?_; refine JC_skip ?_; refine JE_then ?_; refine JC_seq ?_; refine JC_block ?_; refine JC_seq ?_; refine JC_drawT mixed 7 [spV 17 [] _, spV 18 [] _, spV 19 [1] _, spV 20 [] _, spV 21 [2, 3] _, spV 22 [4] _, spC 23 [5] _] ⟨OblS_V (fun vals ex ψ => (by refine JL_normQ _ (_ :: _ :: _ :: _ :: _ :: _ :: ψ) rfl rfl ?_; refine JL_loadA (vs := [_]) 2 ty39 rfl rfl ⟨rfl, trivial⟩ ?_; exact vz rfl)), OblS_V (fun vals ex ψ => (by refine JL_normQ _ (_ :: _ :: _ :: _ :: _ :: _ :: ψ) rfl rfl ?_; refine JL_fieldAddr fo66_2 rfl ?_; exact vz rfl)), OblS_V (fun vals ex ψ => (by refine JL_normQ _ (_ :: _ :: _ :: _ :: _ :: _ :: ψ) rfl rfl ?_; refine JL_load 0 ty64 rfl rfl rfl ?_; exact vz rfl)), oM, OblS_V (fun vals ex ψ => (by refine JL_normQ _ (_ :: _ :: _ :: _ :: _ :: _ :: ψ) rfl rfl ?_; refine JL_indexAddr i sl64 rfl rfl rfl om rdg (by rw [ncL_len]; omega) ?_; exact vz rfl)), OblS_V (fun vals ex ψ => (by refine JL_normQ _ (_ :: _ :: _ :: _ :: _ :: _ :: ψ) rfl rfl ?_; refine JL_loadEA (vs := [_, _, _]) ty66 zp rfl rdg (ncL_getA om) ?_; exact vz rfl)), OblS_C (fun vals ex ψ => (by refine JL_normQ ⟨35, [(17, _), (18, _), (19, _), (20, _), (21, _), (22, _), (23, _)], _⟩ (_ :: _ :: _ :: _ :: _ :: _ :: ψ) rfl rfl ?_; refine JL_callF' (Asks.cons (holds_of_mem am) Asks.nil) (conN0 (IH (t.kids.getD i default) (at_mem (l := t.kids) (i := i) om)) (at_mem (l := t.kids) (i := i) om)) rfl ca44 ⟨rfl, rfl⟩ ?_; exact fun v φo hP => JL_nil (JE_stepC φo rfl hP (fun p hp => mapB_l hp) (fun p hp => mapB_r (ss0 p hp))))), trivial⟩ kr (fun vals bs => ?_)
  refine JL_normL [_, _] ⟨35, [(17, _), (18, _), (19, _), (20, _), (21, _), (22, _), (23, _)], _⟩ [box _ _ [_, _, _], box _ _ [_], box _ _ [_]] [_, _, _, _, _, _, _] rfl rfl rfl rfl ?_; generalize vals (0 + 1 + 1 + 1 + 1 + 1 + 1) = x23; refine JL_usePost mm0 (fun φo hP => ?_); obtain ⟨ad23, cap23, rfl, hk23, hm23, rfl⟩ := hP; refine JL_norm _ [box _ _ [_, _, _], box _ _ [_], box _ _ [_]] [_, _, _, _, _, _, _, _] rfl rfl rfl ?_
  have hcl := cnt_limbs (fitK hf _ (at_mem (l := t.kids) (i := i) om)).ok (by have := nA_mem (at_mem (l := t.kids) (i := i) om); omega)
  have hcm := nA_mem (at_mem (l := t.kids) (i := i) om)
  refine JL_callF' (Asks.cons (holds_of_mem am) (Asks.cons (holds_of_mem am) Asks.nil)) (rmul_con _ _ _ (limbsOf (x)) (x) (NIn.of om) _ _ _ (limbsOf (cntT (er (t.kids.getD i default)))) (cntT (er (t.kids.getD i default))) (NIn.of om) _ rfl) rfl ca82 ⟨rfl, rfl, rfl⟩ ?_; rintro _ _ ⟨ad24, cap24, rfl, hk24, hm24, rfl⟩; refine JL_store (vs := [_]) 2 ty39 rfl rfl rfl ao1 rfl bleq ?_; refine JL_du 35 [box _ _ [_, _, _], box _ _ [_], box _ _ [_]] [_, _, _, _, _, _, _, _, _] ?_; refine JC_sr ?_; refine JL_fieldAddr fo66_0 rfl ?_; refine JL_load 0 ty3 rfl rfl rfl ?_; refine JL_eql rfl rfl ?_; refine JL_split (fun h27 => ?_) (fun h27 => ?_)
  ·refine JL_dv 35 ?_; refine JC_true rfl ?_; refine JC_drawT mixed 5 [spV 28 [] _, spV 29 [] _, spV 30 [1] _, spV 31 [2] _, spC 32 [3] _] ⟨OblS_V (fun vals ex ψ => (by refine JL_normQ _ (_ :: _ :: _ :: _ :: _ :: _ :: _ :: _ :: _ :: ψ) rfl rfl ?_; refine JL_loadA (vs := [_]) 2 ty39 rfl rfl ⟨rfl, trivial⟩ ?_; exact vz rfl)), oM, OblS_V (fun vals ex ψ => (by refine JL_add_to rfl rfl i6o ?_; rw [show (((i : Nat) : Int) + 1 : Int) = ((i + 1 : Nat) : Int) from by omega]; exact vz rfl)), OblS_V (fun vals ex ψ => (by refine JL_normQ _ (_ :: _ :: _ :: _ :: _ :: _ :: _ :: _ :: _ :: ψ) rfl rfl ?_; refine JL_convInt us3 it43 rfl (u64_nat (i + 1) om) ?_; exact vz rfl)), OblS_C (fun vals ex ψ => (by refine JL_normQ ⟨35, [(28, _), (29, _), (30, _), (31, _), (32, _)], _⟩ (_ :: _ :: _ :: _ :: _ :: _ :: _ :: _ :: _ :: ψ) rfl rfl ?_; refine JL_callF' Asks.nil (rof_con (i + 1) om) rfl ca81 ⟨rfl, rfl⟩ ?_; exact fun v φo hP => JL_nil (JE_stepC φo rfl hP (fun p hp => mapB_l hp) (fun p hp => mapB_r (ss0 p hp))))), trivial⟩ kr (fun vals bs => ?_)
   refine JL_normL [_, _] ⟨35, [(28, _), (29, _), (30, _), (31, _), (32, _)], _⟩ [box _ _ [_, _, _], box _ _ [_], box _ _ [_]] [_, _, _, _, _, _, _, _, _, _] rfl rfl rfl rfl ?_; generalize vals (0 + 1 + 1 + 1 + 1) = x32; refine JL_usePost mm0 (fun φo hP => ?_); obtain ⟨ad32, cap32, rfl, hk32, hm32, rfl⟩ := hP; refine JL_norm _ [box _ _ [_, _, _], box _ _ [_], box _ _ [_]] [_, _, _, _, _, _, _, _, _, _, _] rfl rfl rfl ?_
   have hmu := len_limbsOf_mul x (cntT (er (t.kids.getD i default)))
   have hcl := cnt_limbs (fitK hf _ (at_mem (l := t.kids) (i := i) om)).ok (by have := nA_mem (at_mem (l := t.kids) (i := i) om); omega)
   have hcm := nA_mem (at_mem (l := t.kids) (i := i) om)
   have hl1 := limbs_small (n := i + 1) om
   refine JL_callF' (Asks.cons (holds_of_mem am) (Asks.cons (holds_of_mem am) Asks.nil)) (rmul_con _ _ _ (limbsOf (x * cntT (er (t.kids.getD i default)))) (x * cntT (er (t.kids.getD i default))) (NIn.of om) _ _ _ (limbsOf (i + 1)) (i + 1) (NIn.of om) _ rfl) rfl ca82 ⟨rfl, rfl, rfl⟩ ?_; rintro _ _ ⟨ad33, cap33, rfl, hk33, hm33, rfl⟩; refine JL_store (vs := [_]) 2 ty39 rfl rfl rfl ao1 rfl bleq ?_; refine JL_nu 35 [box _ _ [_, _, _], box _ _ [_], box _ _ [_]] [_, _, _, _, _, _, _, _, _, _, _, _] ?_; refine JE_block_normal ?_; refine JE_then ?_; refine JC_region ?_; refine JL_m ?_; refine JL_add_to rfl rfl i6o ?_; refine JL_a ?_; refine JL_nv 35 ?_; refine JE_nextS (i + 1, o * cntT (er (t.kids.getD i default)) * (i + 1), x * cntT (er (t.kids.getD i default)) * (i + 1), ad33, cap33) kr ?_ ?_ kr ?_
   · exact ⟨by omega, ciP hO om (kd_one.1 h27).2, by rw [hxo]; simp only [Nat.mul_assoc, Nat.mul_comm, Nat.mul_left_comm], hk33, hm33⟩
   · first | omega | (dsimp only; omega)
   · exact subset_app (subset_cons am subset_nil) (ssS (ssS (ssS (ssS (ssS (ssS (ssS ss0)))))))
  ·refine JL_dv 35 ?_; refine JC_false rfl ?_; refine JC_skip ?_; refine JE_block_normal ?_; refine JE_then ?_; refine JC_region ?_; refine JL_m ?_; refine JL_add_to rfl rfl i6o ?_; refine JL_a ?_; refine JL_nv 35 ?_; refine JE_nextS (i + 1, o * cntT (er (t.kids.getD i default)), x * cntT (er (t.kids.getD i default)), ad24, cap24) kr ?_ ?_ kr ?_
   · exact ⟨by omega, ciQ hO om (line_t om h27), by rw [hxo]; simp only [Nat.mul_assoc, Nat.mul_comm], hk24, hm24⟩
   · first | omega | (dsimp only; omega)
   · exact subset_app (subset_cons am subset_nil) (ssS (ssS (ssS (ssS ss0))))
 ·refine JL_dv 35 ?_; refine JC_false rfl ?_; refine JC_exit ?_; refine JE_then_exit ?_; refine JE_nextS_exit ?_; refine JE_block_exit ?_; refine JE_then ?_; refine JC_sr ?_; refine JL_loadA (vs := [_]) 2 ty39 rfl rfl ⟨rfl, trivial⟩ ?_; refine JL_store (vs := [_]) 1 ty39 rfl rfl rfl ao1 rfl bleq ?_; refine JL_du 35 [box _ _ [_, _, _], box _ _ [_], box _ _ [_]] [_, _, _, _, _, _] ?_; refine JC_ret ?_; refine JE_ret (vs := [_]) [vCells ad3 (u32s (limbsOf x))] Tryz.results44 ⟨RV.cell (vs := [_]) 1 ty39 rfl rfl ⟨rfl, trivial⟩, rfl⟩ ?_ ?_
  · rw [cnt_end hf hO om hxo hdv]; exact ⟨ad3, c3, rfl, hc3.1, hc3.2, rfl⟩
  · exact (all_cons am all_nil)

theorem rords_con (t : AT) : Fit t → (lvs (er t)).length ≤ 1000 → ConF Tryz.prog 44 [nval t] [vN t] (LN (cntT (er t))) := by
  induction t using AT.indP with
  | h t ih => exact fun hf hL => rords_con0 hf hL fun k hk => ih k hk (fitK hf k hk) (by have := nA_mem hk; have := nA_kids hL; omega)

set_option maxHeartbeats 4000000 in
set_option maxRecDepth 20000 in
theorem rfst_con0 {t : AT} (hf : Fit t) (hn : (lvs (er t)).Nodup) (hL : (lvs (er t)).length ≤ 1000)
    (IH : ∀ k ∈ t.kids, ConF Tryz.prog 46 [nval k] [vN k] (fun v φo => ∃ (ad3 : Option Addr) (c3 : Nat), v = .slice ad3 (zs (fstT (er (k)))).length c3 ∧ ((zs (fstT (er (k)))).length ≤ c3 ∧ c3 ≤ 9223372036854775807) ∧ φo = [vCells ad3 (i64s (zs (fstT (er (k)))))])) :
    ConF Tryz.prog 46 [nval t] [vN t]
      (fun v φo => ∃ (ad3 : Option Addr) (c3 : Nat), v = .slice ad3 (zs (fstT (er (t)))).length c3 ∧ ((zs (fstT (er (t)))).length ≤ c3 ∧ c3 ≤ 9223372036854775807) ∧ φo = [vCells ad3 (i64s (zs (fstT (er (t)))))]) := by
 have hln := fitL hf
 have hnA := nA_kids hL
 refine ConF_of Tryz.func46 rfl 98 (_ :: rp 97) rfl rfl ?_; intro w0; refine JC_st [] [_] ?_; refine JC_sr ?_; refine JL_box rfl rfl (fun b1 => ?_); refine JL_a ?_; refine JL_du 98 [box _ _ [_, _, _]] [_] ?_; refine JC_seq ?_; refine JC_seq ?_; refine JC_nOpen (f := false) (t := t) am ?_; refine JC_region ?_; refine JL_fieldAddr fo66_0 rfl ?_; refine JL_load 0 ty3 rfl rfl rfl ?_; refine JL_eql rfl rfl ?_; refine JL_split (fun h12 => ?_) (fun h12 => ?_)
 ·have h0 := kd_zero.1 h12
  refine JL_dv 98 ?_; refine JC_true rfl ?_; refine JC_sr ?_; refine JL_fieldAddr fo66_1 rfl ?_; refine JL_load 0 ty3 rfl rfl rfl ?_; refine JL_build1 sl32 rfl rfl (fun g15 => ?_); refine JL_norm _ [box _ _ [_, _, _], osl _ _ _ _ _ (i64s ([(t.col : Int)]))] [_, _, _] rfl rfl rfl ?_; refine JL_a ?_; refine JL_du 98 [box _ _ [_, _, _], osl _ _ _ _ _ _] [_, _, _] ?_; refine JC_ret ?_; refine JE_then_ret ?_; refine JE_give 1 rfl ?_; refine JE_norm _ [box _ _ [_, _, _]] [_, _, _, _] rfl rfl rfl ?_; refine JE_ret (vs := [_]) [vCells (some ⟨g15, 0, none⟩) (i64s [(t.col : Int)])] Tryz.results46 ⟨rfl, rfl⟩ ?_ ?_
  · rw [fst_lf h0]; exact ⟨_, _, rfl, ⟨Nat.le_refl _, by decide⟩, rfl⟩
  · exact (all_cons am all_nil)
 ·have hk0 : t.kids.length ≠ 0 := fun e => h12 (kd_zero.2 e)
  have hnk := kidsNd hn
  refine JL_dv 98 ?_; refine JC_false rfl ?_; refine JC_skip ?_; refine JE_then ?_; refine JC_sr ?_; refine JL_a ?_; refine JL_dv 98 ?_; refine JC_seq ?_; refine JC_sr ?_; refine JL_a ?_; refine JL_dv 98 ?_; refine JC_block ?_; refine JC_rwNil ?_; refine JC_addNil 3 1 ?_; refine JC_nw [box _ _ [_, _, _], osl _ _ _ _ _ _] [_, _, _, _] ?_; refine JC_addNil 32 1 ?_; refine JC_nw [box _ _ [_, _, _], osl _ _ _ _ _ _, osl _ _ _ _ _ _] [_, _, _, _] ?_; refine JC_loopS ((Nat) × (List Rw) × (Option Addr) × (Nat)) (fun (i, P, ad3, c3) => i ≤ t.kids.length ∧ PI t.kids i P ∧ P.length = i ∧ (P.length ≤ c3 ∧ c3 ≤ 9223372036854775807)) (fun (i, P, ad3, c3) => t.kids.length - i) (fun u (i, P, ad3, c3) => (rn 3 (some (.slice ad3 P.length c3) :: some (.int .i64 (i : Nat)) :: rn 11 (sc u 16 16 [])))) (fun (i, P, ad3, c3) => (rn 2 [some (osl ad3 P.length c3 32 1 (rws P))])) (fun (i, P, ad3, c3) => [(true, vRws P)]) (0, [], none, 0) kr ?_ kr ?_ ?_
  · exact ⟨Nat.zero_le _, PI.zero _, rfl, Nat.le_refl _, by omega⟩
  · exact (subset_cons am subset_nil)
  intro u i hC; obtain ⟨i, P, ad3, c3⟩ := i; obtain ⟨hi, hPI, hPl, hc3⟩ := hC; refine JC_nm 98 [box _ _ [_, _, _], osl _ _ _ _ _ _, osl _ _ _ _ _ _] [_, _, _, _, _] ?_; refine JC_seq ?_; refine JC_sr ?_; refine JL_m ?_; refine JL_fieldAddr fo66_2 rfl ?_; refine JL_load 0 ty64 rfl rfl rfl ?_; refine JL_len sl64 rfl ?_; refine JL_lss rfl rfl ?_; refine JL_split (fun h20 => ?_) (fun h20 => ?_)
  ·refine JL_dv 98 ?_; refine JC_true rfl ?_; refine JC_skip ?_; refine JE_then ?_; refine JC_seq ?_; refine JC_block ?_; refine JC_region ?_; refine JL_m ?_; refine JL_fieldAddr fo66_2 rfl ?_; refine JL_load 0 ty64 rfl rfl rfl ?_; refine JL_m ?_; refine JL_indexAddr i sl64 rfl rfl rfl om rdg (by rw [ncL_len]; omega) ?_; refine JL_loadEA (vs := [_, _, _]) ty66 zp rfl rdg (ncL_getA om) ?_; refine JL_callF' (Asks.cons (by first | exact holds_of_mem am | (exact holds_of_own 1 rfl) | (exact holds_of_own 2 rfl)) Asks.nil) (conN0 (IH (t.kids.getD i default) (at_mem (l := t.kids) (i := i) om)) (at_mem (l := t.kids) (i := i) om)) rfl ca46 ⟨rfl, rfl⟩ ?_; rintro _ _ ⟨ad29, c29, rfl, hc29, rfl⟩; refine JL_build1 sl22 rfl rfl (fun g30 => ?_); refine JL_norm _ [box _ _ [_, _, _], osl _ _ _ _ _ _, osl _ _ _ _ _ _, osl _ _ _ _ _ (rws [(⟨ad29, c29, zs (fstT (er (t.kids.getD i default)))⟩ : Rw)])] [_, _, _, _, _, _] rfl rfl rfl ?_
   refine JL_append (news := rws [(⟨ad29, c29, zs (fstT (er (t.kids.getD i default)))⟩ : Rw)]) 2 sl22 rfl (by decide) rfl rfl rfl (by rw [rws_length]; rfl) (Reads.own 3 rfl) (rws_one _) om om (fun ad31 cap31 hc31 => ?_); refine JL_dropAt 3 ?_; refine JL_norm _ [box _ _ [_, _, _], osl _ _ _ _ _ _, osl _ _ _ _ _ _] [_, _, _, _, _, _] rfl rfl rfl ?_; rw [rws_app, show P.length + 1 = (P ++ [(⟨ad29, c29, zs (fstT (er (t.kids.getD i default)))⟩ : Rw)]).length from (by rw [List.length_append]; rfl)]; rw [show P.length + 1 = (P ++ [(⟨ad29, c29, zs (fstT (er (t.kids.getD i default)))⟩ : Rw)]).length from (by rw [List.length_append]; rfl)] at hc31; refine JL_rwSnoc (f := true) (l := P) (ad := ad29) (cp := c29) (L := zs (fstT (er (t.kids.getD i default)))) am am ?_; refine JL_a ?_; refine JL_nu 98 [box _ _ [_, _, _], osl _ _ _ _ _ _, osl _ _ _ _ _ _] [_, _, _, _, _, _, _] ?_; refine JE_block_normal ?_; refine JE_then ?_; refine JC_region ?_; refine JL_m ?_; refine JL_add_to rfl rfl i6o ?_; refine JL_a ?_; refine JL_nv 98 ?_
   refine JE_nextS (i + 1, P ++ [(⟨ad29, c29, zs (fstT (er (t.kids.getD i default)))⟩ : Rw)], ad31, cap31) kr ?_ ?_ kr ?_
   · exact ⟨by omega, hPI.step om _ rfl, by rw [List.length_append, hPl]; rfl, hc31⟩
   · first | omega | (dsimp only; omega)
   · exact subset_app (subset_cons am subset_nil) (ssS (ssS (ssS ss0)))
  ·refine JL_dv 98 ?_; refine JC_false rfl ?_; refine JC_exit ?_; refine JE_then_exit ?_; refine JE_nextS_exit ?_; refine JE_block_exit ?_; refine JE_then ?_; refine JC_seq ?_; obtain rfl : i = t.kids.length := by omega
   have hHD := hPI.hd (fitK hf) (by rw [er_kn hk0, lvs_nd] at hn; exact hn)
   have hsm : (P.flatMap Rw.L).length = nA t.kids := sm_PI hPI hf hnk
   have h2P := fit2 hf hk0
   rw [← hPl] at h2P; refine JC_region ?_; refine JL_a ?_; refine JL_dv 98 ?_; refine JC_seq ?_; refine JC_sr ?_; refine JL_fieldAddr fo66_0 rfl ?_; refine JL_load 0 ty3 rfl rfl rfl ?_; refine JL_eql rfl rfl ?_; refine JL_split (fun h34 => ?_) (fun h34 => ?_)
   ·have hq : t.line = true := (kd_two.1 h34).2
    refine JL_dv 98 ?_; refine JC_true rfl ?_; refine JC_seq ?_; refine JC_give 2 rfl ?_; refine JC_nw [box _ _ [_, _, _], osl _ _ _ _ _ _] [_, _, _, _, _, _] ?_; refine JC_region ?_; refine JL_a ?_; refine JL_dv 98 ?_; refine JC_seq ?_; refine JC_sr ?_; refine JL_a ?_; refine JL_dv 98 ?_; refine JC_block ?_; refine JC_addNil 3 1 ?_; refine JC_nw [box _ _ [_, _, _], osl _ _ _ _ _ _, osl _ _ _ _ _ _] [_, _, _, _, _, _] ?_
    refine JC_loopS ((Nat) × (Option Addr) × (Nat) × (Option Addr) × (Nat)) (fun (j, ad5, c5, ad6, c6) => j ≤ P.length ∧ (((P.take j).flatMap Rw.L).length ≤ c5 ∧ c5 ≤ 9223372036854775807) ∧ (((P.reverse.take j).flatMap Rw.L).length ≤ c6 ∧ c6 ≤ 9223372036854775807)) (fun (j, ad5, c5, ad6, c6) => P.length - j) (fun u (j, ad5, c5, ad6, c6) => (rn 5 (some (.slice ad5 ((P.take j).flatMap Rw.L).length c5) :: some (.slice ad6 ((P.reverse.take j).flatMap Rw.L).length c6) :: some (.int .i64 (j : Nat)) :: rn 27 (sc u 35 22 [])))) (fun (j, ad5, c5, ad6, c6) => (none :: some (osl ad5 (((P.take j).flatMap Rw.L)).length c5 3 1 (i64s (((P.take j).flatMap Rw.L)))) :: [some (osl ad6 (((P.reverse.take j).flatMap Rw.L)).length c6 3 1 (i64s (((P.reverse.take j).flatMap Rw.L))))])) (fun (j, ad5, c5, ad6, c6) => []) (0, none, 0, none, 0) kr ?_ kr ?_ ?_
    · exact ⟨Nat.zero_le _, ⟨Nat.le_refl _, by omega⟩, Nat.le_refl _, by omega⟩
    · exact subset_nil
    intro u i hC; obtain ⟨j, ad5, c5, ad6, c6⟩ := i; obtain ⟨hj, hc5, hc6⟩ := hC; refine JC_nm 98 [box _ _ [_, _, _], osl _ _ _ _ _ _, osl _ _ _ _ _ _] [_, _, _, _, _, _] ?_; refine JC_seq ?_; refine JC_sr ?_; refine JL_m ?_; refine JL_m ?_; refine JL_len sl22 rfl ?_; refine JL_lss rfl rfl ?_; refine JL_split (fun h38 => ?_) (fun h38 => ?_)
    ·refine JL_dv 98 ?_; refine JC_true rfl ?_; refine JC_skip ?_; refine JE_then ?_; refine JC_seq ?_; refine JC_block ?_; refine JC_seq ?_
     have hs1 : ((P.take (j + 1)).flatMap Rw.L).length ≤ (P.flatMap Rw.L).length := sm_le P (j + 1)
     rw [fm_take om, List.length_append] at hs1; refine JC_rwGet (f := true) (P.getD j dR) am (rw_mem om) ?_; refine JC_region ?_; refine JL_m ?_; refine JL_m ?_; refine JL_m ?_; refine JL_idx j sl22 rfl rfl rfl om rdg (by rw [rws_length]; omega) ?_; refine JL_loadE ty32 rfl rdg (rws_get om) ?_; refine JL_appendIV (L := ((P.take j).flatMap Rw.L)) (M := (P.getD j dR).L) 1 sl32 rfl rfl rfl rdg (by first | rfl | assumption | (simp only [lenS]; omega)) om om (fun ad46 cap46 hc46 => ?_); rw [← List.length_append, ← fm_take om]; rw [← List.length_append, ← fm_take om] at hc46; refine JL_a ?_; refine JL_du 98 [box _ _ [_, _, _], osl _ _ _ _ _ _, osl _ _ _ _ _ _] [_, _, _, _, _, _, _] ?_
     have hs2 : ((P.reverse.take (j + 1)).flatMap Rw.L).length ≤ (P.reverse.flatMap Rw.L).length := sm_le P.reverse (j + 1)
     have hrt : ((P.reverse.take (j + 1)).flatMap Rw.L) = ((P.reverse.take j).flatMap Rw.L) ++ (P.getD (P.length - 1 - j) dR).L := by rw [revR_take om, List.flatMap_append, List.flatMap_singleton]
     rw [hrt, List.length_append] at hs2
     have hsR : (P.reverse.flatMap Rw.L).length = (P.flatMap Rw.L).length := ((List.reverse_perm P).flatMap_right Rw.L).length_eq
     refine JC_rwGet (f := true) (P.getD (P.length - 1 - j) dR) am (rw_mem om) ?_; refine JC_region ?_; refine JL_m ?_; refine JL_m ?_; refine JL_m ?_; refine JL_len sl22 rfl ?_; refine JL_sub_to rfl rfl i6o ?_; refine JL_m ?_; refine JL_sub_to rfl rfl i6o ?_; refine JL_idx (P.length - 1 - j) sl22 rfl rfl om om rdg (by rw [rws_length]; omega) ?_; refine JL_loadE ty32 rfl rdg (rws_get om) ?_; refine JL_appendIV (L := ((P.reverse.take j).flatMap Rw.L)) (M := (P.getD (P.length - 1 - j) dR).L) 2 sl32 rfl rfl rfl rdg (by first | rfl | assumption | (simp only [lenS]; omega)) om om (fun ad56 cap56 hc56 => ?_); rw [← List.length_append, ← hrt]; rw [← List.length_append, ← hrt] at hc56; refine JL_a ?_; refine JL_nu 98 [box _ _ [_, _, _], osl _ _ _ _ _ _, osl _ _ _ _ _ _] [_, _, _, _, _, _, _, _] ?_
     refine JE_block_normal ?_; refine JE_then ?_; refine JC_region ?_; refine JL_m ?_; refine JL_add_to rfl rfl i6o ?_; refine JL_a ?_; refine JL_nv 98 ?_; refine JE_nextS (j + 1, ad46, cap46, ad56, cap56) kr ?_ ?_ kr ?_
     · exact ⟨by omega, hc46, hc56⟩
     · first | omega | (dsimp only; omega)
     · exact subset_app subset_nil (ssS (ssS ss0))
    ·refine JL_dv 98 ?_; refine JC_false rfl ?_; refine JC_exit ?_; refine JE_then_exit ?_; refine JE_nextS_exit ?_; refine JE_block_exit ?_; refine JE_then ?_; refine JC_seq ?_; refine JC_seq ?_; obtain rfl : j = P.length := by omega
     have hrT : P.reverse.take P.length = P.reverse := List.take_of_length_le (by rw [List.length_reverse]; exact Nat.le_refl _)
     rw [List.take_of_length_le (Nat.le_refl _)] at hc5; rw [hrT] at hc6; rw [List.take_of_length_le (Nat.le_refl _), hrT]
     have hsR : (P.reverse.flatMap Rw.L).length = (P.flatMap Rw.L).length := ((List.reverse_perm P).flatMap_right Rw.L).length_eq
     refine JC_give 1 rfl ?_; refine JC_nw [box _ _ [_, _, _], osl _ _ _ _ _ _] [_, _, _, _, _, _, _] ?_; refine JC_give 1 rfl ?_; refine JC_nw [box _ _ [_, _, _]] [_, _, _, _, _, _, _, _] ?_; refine JC_region ?_; refine JL_m ?_; refine JL_m ?_; refine JL_callF' (Asks.cons (holds_of_mem am) (Asks.cons (holds_of_mem am) Asks.nil)) (rless_con om) rfl ca87 ⟨rfl, rfl, rfl⟩ ?_; rintro _ _ ⟨r59, rfl, rfl, hr59⟩; refine JL_splitV (fun h59 => ?_) (fun h59 => ?_)
     ·refine JL_du 98 [box _ _ [_, _, _]] [_, _, _, _, _, _, _, _] ?_; refine JC_true rfl ?_; refine JC_sr ?_; refine JL_m ?_; refine JL_a ?_; refine JL_dv 98 ?_; refine JC_ret ?_; refine JE_then_ret ?_; refine JE_then_ret ?_; refine JE_ret (vs := [_]) [vCells ad6 (i64s (P.reverse.flatMap Rw.L))] Tryz.results46 ⟨rfl, rfl⟩ ?_ ?_
      · rw [← hPI.lineP (D := P.reverse) hk0 hq (by rw [← hPl, if_pos ((less_dir h2P hHD hr59).1 h59)])]; exact ⟨ad6, c6, rfl, hc6, rfl⟩
      · exact (all_cons am all_nil)
     ·refine JL_du 98 [box _ _ [_, _, _]] [_, _, _, _, _, _, _, _] ?_; refine JC_false rfl ?_; refine JC_skip ?_; refine JE_then ?_; refine JC_sr ?_; refine JL_m ?_; refine JL_a ?_; refine JL_dv 98 ?_; refine JC_ret ?_; refine JE_then_ret ?_; refine JE_ret (vs := [_]) [vCells ad5 (i64s (P.flatMap Rw.L))] Tryz.results46 ⟨rfl, rfl⟩ ?_ ?_
      · rw [← hPI.lineP (D := P) hk0 hq (by rw [← hPl, if_neg (fun h => by rw [(less_dir h2P hHD hr59).2 h] at h59; cases h59)])]; exact ⟨ad5, c5, rfl, hc5, rfl⟩
      · exact (all_cons am all_nil)
   ·have hq : t.line = false := line_f hk0 h34
    refine JL_dv 98 ?_; refine JC_false rfl ?_; refine JC_skip ?_; refine JE_then ?_; refine JC_seq ?_; refine JC_block ?_; refine JC_loopS ((List Rw) × (List Rw) × (Option Addr) × (Nat) × (Option Addr) × (Nat)) (fun (l, D, adl, cl, ad5, c5) => SS P D l ∧ (l.length ≤ cl ∧ cl ≤ 9223372036854775807) ∧ (((D).flatMap Rw.L).length ≤ c5 ∧ c5 ≤ 9223372036854775807)) (fun (l, D, adl, cl, ad5, c5) => l.length) (fun u (l, D, adl, cl, ad5, c5) => (rn 3 (some (.slice adl l.length cl) :: none :: some (.slice ad5 ((D).flatMap Rw.L).length c5) :: rn 2 (sc u 8 2 (rn 52 (sc u 62 35 [])))))) (fun (l, D, adl, cl, ad5, c5) => (none :: some (osl ad5 (((D).flatMap Rw.L)).length c5 3 1 (i64s (((D).flatMap Rw.L)))) :: [some (osl adl l.length cl 32 1 (rws l))])) (fun (l, D, adl, cl, ad5, c5) => [(true, vRws l)]) (P, [], ad3, c3, none, 0) kr ?_ kr ?_ ?_
    · exact ⟨SS.zero P, hc3, Nat.le_refl _, by omega⟩
    · exact (subset_cons am subset_nil)
    intro u i hC; obtain ⟨l, D, adl, cl, ad5, c5⟩ := i; obtain ⟨hSS, hcl, hc5⟩ := hC; refine JC_nm 98 [box _ _ [_, _, _], osl _ _ _ _ _ _, osl _ _ _ _ _ _] [_, _, _, _, _, _] ?_
    have hHl := hSS.hd hHD
    have hsS := hSS.sm
    have hlD := hSS.lenD
    refine JC_seq ?_; refine JC_sr ?_; refine JL_m ?_; refine JL_len sl22 rfl ?_; refine JL_gtr rfl rfl ?_; refine JL_split (fun h64 => ?_) (fun h64 => ?_)
    ·refine JL_dv 98 ?_; refine JC_true rfl ?_; refine JC_skip ?_; refine JE_then ?_; refine JC_block ?_; refine JC_sr ?_; refine JL_a ?_; refine JL_dv 98 ?_; refine JC_seq ?_; refine JC_sr ?_; refine JL_a ?_; refine JL_dv 98 ?_; refine JC_block ?_; refine JC_loopS ((Nat) × (Nat)) (fun (i, k) => i ≤ l.length ∧ Mn l k i) (fun (i, k) => l.length - i) (fun u (i, k) => (rn 8 (some (.int .i64 (k : Nat)) :: some (.int .i64 (i : Nat)) :: rn 55 (sc u 65 16 [])))) (fun (i, k) => []) (fun (i, k) => []) (0, 0) kr ?_ kr ?_ ?_
     · exact ⟨Nat.zero_le _, Mn.zero om⟩
     · exact subset_nil
     intro u i hC; obtain ⟨i, k⟩ := i; obtain ⟨hi, hM⟩ := hC; refine JC_nm 98 [box _ _ [_, _, _], osl _ _ _ _ _ _, osl _ _ _ _ _ _] [_, _, _, _, _, _] ?_
     have hkl := hM.1
     refine JC_seq ?_; refine JC_sr ?_; refine JL_m ?_; refine JL_m ?_; refine JL_len sl22 rfl ?_; refine JL_lss rfl rfl ?_; refine JL_split (fun h68 => ?_) (fun h68 => ?_)
     ·refine JL_dv 98 ?_; refine JC_true rfl ?_; refine JC_skip ?_; refine JE_then ?_; refine JC_seq ?_; refine JC_block ?_; refine JC_seq ?_
      have hgi := sm_get (l := l) (k := i) om
      have hPs : sm P = nA t.kids := hsm
      refine JC_rwGet (f := true) (l.getD i dR) am (rw_mem om) ?_; refine JC_rwGet (f := true) (l.getD k dR) am (rw_mem hM.1) ?_; refine JC_drawT mixed 8 [spV 71 [] _, spV 72 [] _, spV 73 [0, 1] _, spV 74 [2] _, spV 75 [] _, spV 76 [] _, spV 77 [4, 5] _, spV 78 [6] _] ⟨oM, oM, OblS_V (fun vals ex ψ => (by refine JL_normQ _ (_ :: _ :: _ :: _ :: _ :: _ :: _ :: _ :: ψ) rfl rfl ?_; refine JL_idx i sl22 rfl rfl rfl om (Reads.own 2 rfl) (by rw [rws_length]; omega) ?_; exact vz rfl)), OblS_V (fun vals ex ψ => (by refine JL_normQ _ (_ :: _ :: _ :: _ :: _ :: _ :: _ :: _ :: ψ) rfl rfl ?_; refine JL_loadE ty32 rfl (Reads.own 2 rfl) (rws_get om) ?_; exact vz rfl)), oM, oM, OblS_V (fun vals ex ψ => (by refine JL_normQ _ (_ :: _ :: _ :: _ :: _ :: _ :: _ :: _ :: ψ) rfl rfl ?_; refine JL_idx k sl22 rfl rfl rfl om (Reads.own 2 rfl) (by rw [rws_length]; omega) ?_; exact vz rfl)), OblS_V (fun vals ex ψ => (by refine JL_normQ _ (_ :: _ :: _ :: _ :: _ :: _ :: _ :: _ :: ψ) rfl rfl ?_; refine JL_loadE ty32 rfl (Reads.own 2 rfl) (rws_get om) ?_; exact vz rfl)), trivial⟩ kr (fun vals bs => ?_)
      refine JL_normL [_] ⟨98, [(71, _), (72, _), (73, _), (74, _), (75, _), (76, _), (77, _), (78, _)], _⟩ [box _ _ [_, _, _], osl _ _ _ _ _ _, osl _ _ _ _ _ _] [_, _, _, _, _, _, _, _] rfl rfl rfl rfl ?_; refine JL_callF' (Asks.cons (by first | exact holds_of_mem am | (exact holds_of_own 1 rfl) | (exact holds_of_own 2 rfl)) (Asks.cons (by first | exact holds_of_mem am | (exact holds_of_own 1 rfl) | (exact holds_of_own 2 rfl)) Asks.nil)) (rless_con om) rfl ca87 ⟨rfl, rfl, rfl⟩ ?_; rintro _ _ ⟨r79, rfl, rfl, hr79⟩; refine JL_splitV (fun h79 => ?_) (fun h79 => ?_)
      ·refine JL_du 98 [box _ _ [_, _, _], osl _ _ _ _ _ _, osl _ _ _ _ _ _] [_, _, _, _, _, _, _, _] ?_; refine JC_true rfl ?_; refine JC_region ?_; refine JL_m ?_; refine JL_a ?_; refine JL_nv 98 ?_; refine JE_block_normal ?_; refine JE_then ?_; refine JC_region ?_; refine JL_m ?_; refine JL_add_to rfl rfl i6o ?_; refine JL_a ?_; refine JL_nv 98 ?_; refine JE_nextS (i + 1, i) kr ?_ ?_ kr ?_
       · exact ⟨by omega, hM.yes om ((hHl.lt om hM.1 hr79).1 h79)⟩
       · first | omega | (dsimp only; omega)
       · exact subset_app subset_nil (ssS (ssS ss0))
      ·refine JL_du 98 [box _ _ [_, _, _], osl _ _ _ _ _ _, osl _ _ _ _ _ _] [_, _, _, _, _, _, _, _] ?_; refine JC_false rfl ?_; refine JC_skip ?_; refine JE_block_normal ?_; refine JE_then ?_; refine JC_region ?_; refine JL_m ?_; refine JL_add_to rfl rfl i6o ?_; refine JL_a ?_; refine JL_nv 98 ?_; refine JE_nextS (i + 1, k) kr ?_ ?_ kr ?_
       · exact ⟨by omega, hM.no fun h => by rw [(hHl.lt om hM.1 hr79).2 h] at h79; cases h79⟩
       · first | omega | (dsimp only; omega)
       · exact subset_app subset_nil (ssS (ssS ss0))
     ·refine JL_dv 98 ?_; refine JC_false rfl ?_; refine JC_exit ?_; refine JE_then_exit ?_; refine JE_nextS_exit ?_; refine JE_block_exit ?_; refine JE_then ?_; refine JC_seq ?_; obtain rfl : i = l.length := by omega
      have hkl := hM.1
      have hgk := sm_get hM.1
      have hst := hSS.step hM
      have hPs : sm P = nA t.kids := hsm
      have hDs : ((D).flatMap Rw.L).length = sm D := rfl
      have hfD : ((D ++ [(l.getD k dR)]).flatMap Rw.L) = ((D).flatMap Rw.L) ++ (l.getD k dR).L := by rw [List.flatMap_append, List.flatMap_singleton]
      have hrl : (l.take k ++ l.drop (k + 1)).length = l.length - 1 := by rw [List.length_append, List.length_take, List.length_drop]; omega
      refine JC_rwGet (f := true) (l.getD k dR) am (rw_mem hM.1) ?_; refine JC_region ?_; refine JL_m ?_; refine JL_m ?_; refine JL_m ?_; refine JL_idx k sl22 rfl rfl rfl om (Reads.own 2 rfl) (by rw [rws_length]; omega) ?_; refine JL_loadE ty32 rfl (Reads.own 2 rfl) (rws_get om) ?_; refine JL_appendIV (L := ((D).flatMap Rw.L)) (M := (l.getD k dR).L) 1 sl32 rfl rfl rfl rdg (by first | rfl | assumption | (simp only [lenS]; omega)) om om (fun ad86 cap86 hc86 => ?_); rw [← List.length_append, ← hfD]; rw [← List.length_append, ← hfD] at hc86; refine JL_a ?_; refine JL_du 98 [box _ _ [_, _, _], osl _ _ _ _ _ _, osl _ _ _ _ _ _] [_, _, _, _, _, _, _] ?_; refine JC_give 2 rfl ?_; refine JC_nw [box _ _ [_, _, _], osl _ _ _ _ _ _] _ ?_; refine JC_addView (f := true) (p := vCells adl (rws (l.take k))) (fun w s => rwsTake k (s.views _ (show (true, vCells adl (rws l)) ∈ _ from am))) ?_
      refine JC_addView (f := true) (p := vCells (subAd adl cl (k + 1) 1) (rws (l.drop (k + 1)))) (fun w s => rwsDrop cl (k + 1) hcl.1 (s.views _ (show (true, vCells adl (rws l)) ∈ _ from am))) ?_; refine JC_drawR mixed 9 [srN 87 [] (ownC 32 1 (0) ([])), srV 88 [] _, srV 89 [] _, srV 90 [1, 2] _, srW 91 [0, 3] 0 (ownC 32 1 (0 + k) ([] ++ rws (l.take k))), srV 92 [] _, srV 93 [] _, srV 94 [6] _, srV 95 [5, 7] _] ⟨OblR_N (fun vals rs ex ψ => (by intro _; refine JL_normG ⟨98, [(87, _), (88, _), (89, _), (90, _), (91, _), (92, _), (93, _), (94, _), (95, _)], _⟩ (_ :: _ :: _ :: _ :: _ :: _ :: _ :: _ :: _ :: _ :: ψ) rfl rfl ?_; refine JL_build0 sl22 (fun g87 => ?_); exact JL_nil (JE_stepG (osl (some ⟨g87, 0, none⟩) 0 0 32 1 []) rfl rfl (ownC_mk ⟨Nat.le_refl _, Nat.zero_le _⟩) ss0))), OblR_V (fun vals rs ex ψ => (by intro _; refine JL_normQ ⟨98, [(87, _), (88, _), (89, _), (90, _), (91, _), (92, _), (93, _), (94, _), (95, _)], _⟩ (_ :: _ :: _ :: _ :: _ :: _ :: _ :: _ :: _ :: _ :: ψ) rfl rfl ?_; refine JL_m ?_; exact JL_nil (JE_stepV rfl ss0))), OblR_V (fun vals rs ex ψ => (by intro _; refine JL_normQ ⟨98, [(87, _), (88, _), (89, _), (90, _), (91, _), (92, _), (93, _), (94, _), (95, _)], _⟩ (_ :: _ :: _ :: _ :: _ :: _ :: _ :: _ :: _ :: _ :: ψ) rfl rfl ?_; refine JL_m ?_; exact JL_nil (JE_stepV rfl ss0))), OblR_V (fun vals rs ex ψ => (by intro _; refine JL_normQ ⟨98, [(87, _), (88, _), (89, _), (90, _), (91, _), (92, _), (93, _), (94, _), (95, _)], _⟩ (_ :: _ :: _ :: _ :: _ :: _ :: _ :: _ :: _ :: _ :: ψ) rfl rfl ?_; refine JL_sliceTo k sl22 rfl rfl rfl om ?_; exact JL_nil (JE_stepV rfl ss0))), OblR_W (fun vals rs ex ψ => (by
        rintro ⟨⟨ad87, cap87, hv87, hc87, hr87⟩, -⟩; refine JL_normG ⟨98, [(87, vals 0), (88, _), (89, _), (90, _), (91, _), (92, _), (93, _), (94, _), (95, _)], _⟩ (_ :: _ :: _ :: _ :: _ :: _ :: _ :: _ :: _ :: _ :: ψ) rfl rfl ?_; rw [hv87]; rw [hr87]; refine JL_append (news := rws (l.take k)) 2 sl22 rfl (by decide) rfl rfl rfl (by rw [rws_length, List.length_take]; omega) (Reads.view (show (true, vCells adl (rws (l.take k))) ∈ _ from am)) (rws_one _) om om (fun ad91 cap91 hc91 => ?_); exact JL_nil (JE_stepG (osl ad91 _ cap91 32 1 _) rfl rfl (ownC_mk hc91) ss0))), OblR_V (fun vals rs ex ψ => (by intro _; refine JL_normQ ⟨98, [(87, _), (88, _), (89, _), (90, _), (91, _), (92, _), (93, _), (94, _), (95, _)], _⟩ (_ :: _ :: _ :: _ :: _ :: _ :: _ :: _ :: _ :: _ :: ψ) rfl rfl ?_; refine JL_m ?_; exact JL_nil (JE_stepV rfl ss0))), OblR_V (fun vals rs ex ψ => (by intro _; refine JL_normQ ⟨98, [(87, _), (88, _), (89, _), (90, _), (91, _), (92, _), (93, _), (94, _), (95, _)], _⟩ (_ :: _ :: _ :: _ :: _ :: _ :: _ :: _ :: _ :: _ :: ψ) rfl rfl ?_; refine JL_m ?_; exact JL_nil (JE_stepV rfl ss0))), OblR_V (fun vals rs ex ψ => (by intro _; refine JL_normQ ⟨98, [(87, _), (88, _), (89, _), (90, _), (91, _), (92, _), (93, _), (94, _), (95, _)], _⟩ (_ :: _ :: _ :: _ :: _ :: _ :: _ :: _ :: _ :: _ :: ψ) rfl rfl ?_; refine JL_add_to rfl rfl i6o ?_; rw [show (((k : Nat) : Int) + 1 : Int) = ((k + 1 : Nat) : Int) from by omega]; exact JL_nil (JE_stepV rfl ss0))), OblR_V (fun vals rs ex ψ => (by
        intro _; refine JL_normQ ⟨98, [(87, _), (88, _), (89, _), (90, _), (91, _), (92, _), (93, _), (94, _), (95, _)], _⟩ (_ :: _ :: _ :: _ :: _ :: _ :: _ :: _ :: _ :: _ :: ψ) rfl rfl ?_; refine JL_slice (k + 1) l.length cl sl22 rfl (.some rfl rfl) .none .none (.inl rfl) om hcl.1 om ?_; exact JL_nil (JE_stepV rfl ss0))), trivial⟩ kr (fun vals rs => ?_)
      rintro ⟨-, ⟨ad91, cap91, hv91, hc91, hr91⟩, -⟩; refine JL_normL [_, _] ⟨98, [(87, vals 0), (88, _), (89, _), (90, _), (91, vals 4), (92, _), (93, _), (94, _), (95, _)], _⟩ [box _ _ [_, _, _], osl _ _ _ _ _ _, rs 4] [_, _, _, _, _, _, _, _, _, _] rfl rfl rfl rfl ?_
      replace hv91 : vals 4 = _ := hv91
      replace hr91 : rs 4 = _ := hr91
      rw [hv91, hr91]; refine JL_norm _ [box _ _ [_, _, _], osl _ _ _ _ _ _, osl _ _ _ _ _ _] [_, _, _, _, _, _, _, _, _, _] rfl rfl rfl ?_; refine JL_append (news := rws (l.drop (k + 1))) 2 sl22 rfl (by decide) rfl rfl rfl (by rw [rws_length, List.length_drop]; omega) (Reads.view am) (rws_one _) om om (fun ad96 cap96 hc96 => ?_); refine JL_norm _ [box _ _ [_, _, _], osl _ _ _ _ _ _, osl _ _ _ _ _ _] [_, _, _, _, _, _, _, _, _, _] rfl rfl rfl ?_; rw [show 0 + k + (l.length - (k + 1)) = (l.take k ++ l.drop (k + 1)).length from by rw [hrl]; omega, show ([] ++ rws (l.take k)) ++ rws (l.drop (k + 1)) = rws (l.take k ++ l.drop (k + 1)) from by rw [List.nil_append, rws_app]]; rw [show 0 + k + (l.length - (k + 1)) = (l.take k ++ l.drop (k + 1)).length from by rw [hrl]; omega] at hc96; refine JL_rwSub (f := true) (l := l) (m := (l.take k ++ l.drop (k + 1))) am (fun x hx => (List.mem_append.1 hx).elim List.mem_of_mem_take List.mem_of_mem_drop) ?_; refine JL_a ?_; refine JL_nu 98 [box _ _ [_, _, _], osl _ _ _ _ _ _, osl _ _ _ _ _ _] [_, _, _, _, _, _, _, _, _, _, _] ?_; refine JE_block_normal ?_
      refine JE_nextS ((l.take k ++ l.drop (k + 1)), D ++ [(l.getD k dR)], ad96, cap96, ad86, cap86) kr ?_ ?_ kr ?_
      · exact ⟨hst, hc96, hc86⟩
      · (dsimp only; rw [hrl]; omega)
      · exact subset_app (subset_cons am subset_nil) (ssS (ssS (ssS (ssS (ssS (ssS ss0))))))
    ·refine JL_dv 98 ?_; refine JC_false rfl ?_; refine JC_exit ?_; refine JE_then_exit ?_; refine JE_nextS_exit ?_; refine JE_block_exit ?_; refine JE_then ?_; refine JC_sr ?_; refine JL_m ?_; refine JL_a ?_; refine JL_dv 98 ?_; refine JC_ret ?_; obtain rfl : l = [] := List.eq_nil_of_length_eq_zero om; refine JE_give 1 rfl ?_; refine JE_norm _ [box _ _ [_, _, _], osl _ _ _ _ _ _] [_, _, _, _, _, _, _] rfl rfl rfl ?_; refine JE_ret (vs := [_]) [vCells ad5 (i64s (D.flatMap Rw.L))] Tryz.results46 ⟨rfl, rfl⟩ ?_ ?_
     · rw [← hPI.anyP (D := D) hk0 hf hq hn hSS.done.1 hSS.done.2]; exact ⟨ad5, c5, rfl, hc5, rfl⟩
     · exact (all_cons am all_nil)

theorem rfst_con (t : AT) : Fit t → (lvs (er t)).Nodup → (lvs (er t)).length ≤ 1000 → ConF Tryz.prog 46 [nval t] [vN t] (fun v φo => ∃ (ad3 : Option Addr) (c3 : Nat), v = .slice ad3 (zs (fstT (er (t)))).length c3 ∧ ((zs (fstT (er (t)))).length ≤ c3 ∧ c3 ≤ 9223372036854775807) ∧ φo = [vCells ad3 (i64s (zs (fstT (er (t)))))]) := by
  induction t using AT.indP with
  | h t ih => exact fun hf hn hL => rfst_con0 hf hn hL fun k hk => ih k hk (fitK hf k hk) (kidsNd hn k hk) (by have := nA_mem hk; have := nA_kids hL; omega)

theorem rttext_con {b n : Nat} {t : AT} (hf : Fit t) (ht : Tn n (er t)) (hn : n ≤ 16) :
    ConF Tryz.prog 15 [nptr b] [vCells (some ⟨b, 0, none⟩) [.int .i64 (n : Nat), .int .i64 (t).kind, .int .i64 ((t).col : Nat), .slice (t).kad (t).kids.length (t).kcap], vN t]
      (fun v φo => v = .string (bs (tx t)) ∧ φo = []) := by
 have hlv := ht.lvs_len
 refine ConF_of Tryz.func15 rfl 10 (_ :: rp 9) rfl rfl ?_; intro w0; refine JC_st [] [_, _] ?_; refine JC_sr ?_; refine JL_a ?_; refine JL_dv 10 ?_; refine JC_seq ?_; refine JC_sr ?_; refine JL_m ?_; refine JL_eqlPtr pt29 rfl rfl ?_; refine JL_splitV (fun h4 => ?_) (fun h4 => ?_)
 · exact absurd h4 Bool.false_ne_true
 ·refine JL_dv 10 ?_; refine JC_false rfl ?_; refine JC_skip ?_; refine JE_then ?_; refine JC_sr ?_; refine JL_m ?_; refine JL_nilCheckE rfl ?_; refine JL_fieldAddrE fo69_1 rfl rdg (show 0 < ([.int .i64 (n : Nat), .int .i64 (t).kind, .int .i64 ((t).col : Nat), .slice (t).kad (t).kids.length (t).kcap] : List Value).length from Nat.zero_lt_succ _) ?_; refine JL_loadEA (vs := [_, _, _]) ty66 zp rfl rdg load3 ?_; refine JL_callA' false (AsksA.cons (by first | exact holdsA_of_mem am | exact holdsA_of_fresh am) AsksA.nil) (rtext_con t hf ht.nodup (fun x hx => by have := ht.lt x hx; omega) om) rfl ca42 ⟨rfl, rfl⟩ ?_; rintro _ _ ⟨rfl, rfl⟩; refine JL_a ?_; refine JL_du 10 [] [_, _] ?_; refine JC_ret ?_; refine JE_ret (vs := [_]) [] Tryz.results15 ⟨rfl, rfl⟩ ?_ ?_
  · exact ⟨rfl, rfl⟩
  · exact all_nil

theorem rtcount_con {b n : Nat} {t : AT} (hf : Fit t) (ht : Tn n (er t)) (hn : n ≤ 16) :
    ConF Tryz.prog 19 [nptr b] [vCells (some ⟨b, 0, none⟩) [.int .i64 (n : Nat), .int .i64 (t).kind, .int .i64 ((t).col : Nat), .slice (t).kad (t).kids.length (t).kcap], vN t]
      (LN (cntT (er t))) := by
 have hlv := ht.lvs_len
 have _ := hn
 refine ConF_of Tryz.func19 rfl 11 (_ :: rp 10) rfl rfl ?_; intro w0; refine JC_st [] [_, _] ?_; refine JC_sr ?_; refine JL_alloc z39 (fun b2 => ?_); refine JL_du 11 [box _ _ [_]] [_, _] ?_; refine JC_seq ?_; refine JC_sr ?_; refine JL_m ?_; refine JL_eqlPtr pt29 rfl rfl ?_; refine JL_splitV (fun h4 => ?_) (fun h4 => ?_)
 · exact absurd h4 Bool.false_ne_true
 ·refine JL_dv 11 ?_; refine JC_false rfl ?_; refine JC_skip ?_; refine JE_then ?_; refine JC_sr ?_; refine JL_m ?_; refine JL_nilCheckE rfl ?_; refine JL_fieldAddrE fo69_1 rfl rdg (show 0 < ([.int .i64 (n : Nat), .int .i64 (t).kind, .int .i64 ((t).col : Nat), .slice (t).kad (t).kids.length (t).kcap] : List Value).length from Nat.zero_lt_succ _) ?_; refine JL_loadEA (vs := [_, _, _]) ty66 zp rfl rdg load3 ?_; refine JL_callF' (Asks.cons (holds_of_mem am) Asks.nil) (rords_con t hf om) rfl ca44 ⟨rfl, rfl⟩ ?_; rintro _ _ ⟨ad10, cap10, rfl, hk10, hm10, rfl⟩; refine JL_store (vs := [_]) 0 ty39 rfl rfl rfl ao1 rfl bleq ?_; refine JL_du 11 [box _ _ [_]] [_, _, _] ?_; refine JC_ret ?_; refine JE_ret (vs := [_]) [vCells ad10 (u32s (limbsOf (cntT (er t))))] Tryz.results19 ⟨RV.cell (vs := [_]) 0 ty39 rfl rfl ⟨rfl, trivial⟩, rfl⟩ ?_ ?_
  · exact ⟨ad10, cap10, rfl, hk10, hm10, rfl⟩
  · exact (all_cons am all_nil)

theorem rtfst_con {b n : Nat} {t : AT} (hf : Fit t) (ht : Tn n (er t)) (hn : n ≤ 16) :
    ConF Tryz.prog 21 [nptr b] [vCells (some ⟨b, 0, none⟩) [.int .i64 (n : Nat), .int .i64 (t).kind, .int .i64 ((t).col : Nat), .slice (t).kad (t).kids.length (t).kcap], vN t]
      (fun v φo => ∃ (ad3 : Option Addr) (c3 : Nat), v = .slice ad3 (zs (fstT (er t))).length c3 ∧ ((zs (fstT (er t))).length ≤ c3 ∧ c3 ≤ 9223372036854775807) ∧ φo = [vCells ad3 (i64s (zs (fstT (er t))))]) := by
 have hlv := ht.lvs_len
 have _ := hn
 refine ConF_of Tryz.func21 rfl 10 (_ :: rp 9) rfl rfl ?_; intro w0; refine JC_st [] [_, _] ?_; refine JC_sr ?_; refine JL_a ?_; refine JL_dv 10 ?_; refine JC_seq ?_; refine JC_sr ?_; refine JL_m ?_; refine JL_eqlPtr pt29 rfl rfl ?_; refine JL_splitV (fun h4 => ?_) (fun h4 => ?_)
 · exact absurd h4 Bool.false_ne_true
 ·refine JL_dv 10 ?_; refine JC_false rfl ?_; refine JC_skip ?_; refine JE_then ?_; refine JC_sr ?_; refine JL_m ?_; refine JL_nilCheckE rfl ?_; refine JL_fieldAddrE fo69_1 rfl rdg (show 0 < ([.int .i64 (n : Nat), .int .i64 (t).kind, .int .i64 ((t).col : Nat), .slice (t).kad (t).kids.length (t).kcap] : List Value).length from Nat.zero_lt_succ _) ?_; refine JL_loadEA (vs := [_, _, _]) ty66 zp rfl rdg load3 ?_; refine JL_callF' (Asks.cons (holds_of_mem am) Asks.nil) (rfst_con t hf ht.nodup om) rfl ca46 ⟨rfl, rfl⟩ ?_; rintro _ _ ⟨ad9, c9, rfl, hc9, rfl⟩; refine JL_a ?_; refine JL_du 10 [] [_, _, _] ?_; refine JC_ret ?_; refine JE_ret (vs := [_]) [vCells ad9 (i64s (zs (fstT (er t))))] Tryz.results21 ⟨rfl, rfl⟩ ?_ ?_
  · exact ⟨ad9, c9, rfl, hc9, rfl⟩
  · exact (all_cons am all_nil)

theorem rtredN_con {x : Value} :
    ConF Tryz.prog 13 [.pointer none, x] []
      (fun v φo => v = .int .i64 1 ∧ φo = []) := by
 refine ConF_of Tryz.func13 rfl 34 (_ :: _ :: rp 32) rfl rfl ?_; intro w0; refine JC_st [] [] ?_; refine JC_sr ?_; refine JL_a ?_; refine JL_dv 34 ?_; refine JC_seq ?_; refine JC_sr ?_; refine JL_m ?_; refine JL_eqlPtr pt29 rfl rfl ?_; refine JL_splitV (fun h8 => ?_) (fun h8 => ?_)
 ·refine JL_m ?_; refine JL_gn ?_; refine JL_gn ?_; refine JL_gn ?_; refine JL_gn ?_; refine JL_gn ?_; refine JL_gn ?_; refine JL_gn ?_; refine JL_gn ?_; refine JL_pick_t rfl rfl ?_; refine JL_dv 34 ?_; refine JC_true rfl ?_; refine JC_sr ?_; refine JL_a ?_; refine JL_dv 34 ?_; refine JC_ret ?_; refine JE_then_ret ?_; refine JE_ret (vs := [_]) [] Tryz.results13 ⟨rfl, rfl⟩ ?_ ?_
  · exact ⟨rfl, rfl⟩
  · exact all_nil
 · exact absurd h8 (by decide)

theorem rttextN_con  :
    ConF Tryz.prog 15 [.pointer none] []
      (fun v φo => v = .string ⟨#[]⟩ ∧ φo = []) := by
 refine ConF_of Tryz.func15 rfl 10 (_ :: rp 9) rfl rfl ?_; intro w0; refine JC_st [] [] ?_; refine JC_sr ?_; refine JL_a ?_; refine JL_dv 10 ?_; refine JC_seq ?_; refine JC_sr ?_; refine JL_m ?_; refine JL_eqlPtr pt29 rfl rfl ?_; refine JL_splitV (fun h4 => ?_) (fun h4 => ?_)
 ·refine JL_dv 10 ?_; refine JC_true rfl ?_; refine JC_sr ?_; refine JL_a ?_; refine JL_dv 10 ?_; refine JC_ret ?_; refine JE_then_ret ?_; refine JE_ret (vs := [_]) [] Tryz.results15 ⟨rfl, rfl⟩ ?_ ?_
  · exact ⟨rfl, rfl⟩
  · exact all_nil
 · exact absurd h4 (by decide)

theorem rtcountN_con  :
    ConF Tryz.prog 19 [.pointer none] []
      (fun v φo => v = .agg #[.slice none 0 0] ∧ φo = []) := by
 refine ConF_of Tryz.func19 rfl 11 (_ :: rp 10) rfl rfl ?_; intro w0; refine JC_st [] [] ?_; refine JC_sr ?_; refine JL_alloc z39 (fun b2 => ?_); refine JL_du 11 [box _ _ [_]] [] ?_; refine JC_seq ?_; refine JC_sr ?_; refine JL_m ?_; refine JL_eqlPtr pt29 rfl rfl ?_; refine JL_splitV (fun h4 => ?_) (fun h4 => ?_)
 ·refine JL_dv 11 ?_; refine JC_true rfl ?_; refine JC_sr ?_; refine JL_build (cs := [_]) [] st39 rfl rfl ?_; refine JL_store (vs := [_]) 0 ty39 rfl rfl rfl ao1 rfl bleq ?_; refine JL_du 11 [box _ _ [_]] [] ?_; refine JC_ret ?_; refine JE_then_ret ?_; refine JE_ret (vs := [_]) [] Tryz.results19 ⟨RV.cell (vs := [_]) 0 ty39 rfl rfl ⟨rfl, trivial⟩, rfl⟩ ?_ ?_
  · exact ⟨rfl, rfl⟩
  · exact all_nil
 · exact absurd h4 (by decide)

theorem rtfstN_con  :
    ConF Tryz.prog 21 [.pointer none] []
      (fun v φo => v = .slice none 0 0 ∧ φo = []) := by
 refine ConF_of Tryz.func21 rfl 10 (_ :: rp 9) rfl rfl ?_; intro w0; refine JC_st [] [] ?_; refine JC_sr ?_; refine JL_a ?_; refine JL_dv 10 ?_; refine JC_seq ?_; refine JC_sr ?_; refine JL_m ?_; refine JL_eqlPtr pt29 rfl rfl ?_; refine JL_splitV (fun h4 => ?_) (fun h4 => ?_)
 ·refine JL_dv 10 ?_; refine JC_true rfl ?_; refine JC_sr ?_; refine JL_a ?_; refine JL_dv 10 ?_; refine JC_ret ?_; refine JE_then_ret ?_; refine JE_ret (vs := [_]) [] Tryz.results21 ⟨rfl, rfl⟩ ?_ ?_
  · exact ⟨rfl, rfl⟩
  · exact all_nil
 · exact absurd h4 (by decide)

end Go.Fw.K
