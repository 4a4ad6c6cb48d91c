/- Walks through functions of the given program: each meets its contract. (Printed by a program of this repo.) -/
import Derived.Test.YtjkbamfcoiikmaaGreatDoorMD
import Derived.Test.YtjkbamfcoiikmaaGreatDoorPqP
import Derived.Test.YtjkbamfcoiikmaaGreatDoorProg
namespace Go.Fw.ME
open Go Go.RowKit Go.Proofs Go.Nat9 Go.Fw
attribute [local irreducible] JC JL JE
theorem ca10 : callable Tryz.prog 10 = true := by kernel_rfl
theorem ca12 : callable Tryz.prog 12 = true := by kernel_rfl
theorem ca14 : callable Tryz.prog 14 = true := by kernel_rfl
theorem ca18 : callable Tryz.prog 18 = true := by kernel_rfl
theorem ca22 : callable Tryz.prog 22 = true := by kernel_rfl
theorem ca28 : callable Tryz.prog 28 = true := by kernel_rfl
theorem ca41 : callable Tryz.prog 41 = true := by kernel_rfl
theorem ca43 : callable Tryz.prog 43 = true := by kernel_rfl
theorem ca45 : callable Tryz.prog 45 = true := by kernel_rfl
theorem ca47 : callable Tryz.prog 47 = true := by kernel_rfl
theorem ca48 : callable Tryz.prog 48 = true := by kernel_rfl
theorem fo39_0 : fOf Tryz.prog 39 0 = some 0 := by kernel_rfl
theorem fo63_1 : fOf Tryz.prog 63 1 = some 1 := by kernel_rfl
theorem it43 : intTy Tryz.prog 43 = some .u64 := by kernel_rfl
theorem mixed : Tryz.prog.follows .mixedOrders = true := by kernel_rfl
theorem pt25 : Tryz.prog.underlying 25 = some (.pointer (Tryz.prog.pointee 25)) := by kernel_rfl
theorem sl22 : slOf Tryz.prog 22 = some (32, 1, 24, [.slice none 0 0]) := by kernel_rfl
theorem sl32 : slOf Tryz.prog 32 = some (3, 1, 8, [.int .i64 0]) := by kernel_rfl
theorem sl37 : slOf Tryz.prog 37 = some (79, 1, 4, [.int .u32 0]) := by kernel_rfl
theorem ty3 : tyOf Tryz.prog 3 = some (false, 1) := by kernel_rfl
theorem ty32 : tyOf Tryz.prog 32 = some (false, 1) := by kernel_rfl
theorem ty37 : tyOf Tryz.prog 37 = some (false, 1) := by kernel_rfl
theorem ty39 : tyOf Tryz.prog 39 = some (true, 1) := by kernel_rfl
theorem ty58 : tyOf Tryz.prog 58 = some (false, 1) := by kernel_rfl
theorem ty79 : tyOf Tryz.prog 79 = some (false, 1) := by kernel_rfl
theorem us79 : (Tryz.prog.underlying 79).isSome = true := by kernel_rfl
theorem z39 : zeroOf Tryz.prog 39 = some [.slice none 0 0] := by kernel_rfl
end Go.Fw.ME
namespace Go.Fw.K
open Go Go.RowKit Go.Proofs Go.Nat9 Go.Fw Go.Fw.ME
attribute [local irreducible] JC JL JE

open Go.Fw.Pq
theorem bints_con {ad1 ad2 : Option Addr} {c1 c2 : Nat} {L : List Int} (hln : L.length ≤ 1000000) :
    ConF Tryz.prog 16 [.slice ad1 L.length c1, .slice ad2 L.length c2] [vCells ad1 (i64s L), vCells ad2 (i64s L)]
      (fun v φo => v = .bool (true) ∧ φo = []) := by
 refine ConF_of Tryz.func16 rfl 26 (_ :: _ :: rp 24) rfl rfl ?_; intro w0; refine JC_st [] [_, _] ?_; refine JC_sr ?_; refine JL_a ?_; refine JL_dv 26 ?_; refine JC_seq ?_; refine JC_sr ?_; refine JL_m ?_; refine JL_len sl32 rfl ?_; refine JL_m ?_; refine JL_len sl32 rfl ?_; refine JL_neq rfl rfl ?_; refine JL_split (fun h10 => ?_) (fun h10 => ?_)
 · exact absurd rfl h10
 ·refine JL_dv 26 ?_; refine JC_false rfl ?_; refine JC_skip ?_; refine JE_then ?_; refine JC_seq ?_; refine JC_sr ?_; refine JL_a ?_; refine JL_dv 26 ?_; refine JC_block ?_; refine JC_loopS ((Nat)) (fun (k : Nat) => k ≤ L.length) (fun (k : Nat) => L.length - k) (fun u (k : Nat) => (rn 4 (some (u 4) :: some (.int .i64 (k : Nat)) :: rn 5 (sc u 11 15 [])))) (fun (k : Nat) => []) (fun (k : Nat) => []) (0) kr ?_ kr ?_ ?_
  · exact Nat.zero_le _
  · exact subset_nil
  intro u k hk; refine JC_nm 26 [] [_, _] ?_; refine JC_seq ?_; refine JC_sr ?_; refine JL_m ?_; refine JL_m ?_; refine JL_len sl32 rfl ?_; refine JL_lss rfl rfl ?_; refine JL_split (fun h14 => ?_) (fun h14 => ?_)
  ·refine JL_dv 26 ?_; refine JC_true rfl ?_; refine JC_skip ?_; refine JE_then ?_; refine JC_seq ?_; refine JC_block ?_; refine JC_seq ?_; refine JC_drawT mixed 8 [spV 17 [] _, spV 18 [] _, spV 19 [0, 1] _, spV 20 [2] _, spV 21 [] _, spV 22 [] _, spV 23 [4, 5] _, spV 24 [6] _] ⟨oM, oM, OblS_V (fun vals ex ψ => (by refine JL_normQ _ (_ :: _ :: ψ) rfl rfl ?_; refine JL_idx k sl32 rfl rfl rfl om rdg lno ?_; exact vz rfl)), OblS_V (fun vals ex ψ => (by refine JL_normQ _ (_ :: _ :: ψ) rfl rfl ?_; refine JL_loadE ty3 rfl rdg (i64s_get om) ?_; exact vz rfl)), oM, oM, OblS_V (fun vals ex ψ => (by refine JL_normQ _ (_ :: _ :: ψ) rfl rfl ?_; refine JL_idx k sl32 rfl rfl rfl om rdg lno ?_; exact vz rfl)), OblS_V (fun vals ex ψ => (by refine JL_normQ _ (_ :: _ :: ψ) rfl rfl ?_; refine JL_loadE ty3 rfl rdg (i64s_get om) ?_; exact vz rfl)), trivial⟩ kr (fun vals bs => ?_)
   refine JL_normL [_] ⟨26, [(17, _), (18, _), (19, _), (20, _), (21, _), (22, _), (23, _), (24, _)], _⟩ [] [_, _] rfl rfl rfl rfl ?_; refine JL_neq rfl rfl ?_; refine JL_split (fun h25 => ?_) (fun h25 => ?_)
   · exact absurd rfl h25
   ·refine JL_du 26 [] [_, _] ?_; refine JC_false rfl ?_; refine JC_skip ?_; refine JE_block_normal ?_; refine JE_then ?_; refine JC_region ?_; refine JL_m ?_; refine JL_add_to rfl rfl i6o ?_; refine JL_a ?_; refine JL_nv 26 ?_; refine JE_nextS (k + 1) kr ?_ ?_ kr ?_
    · exact (by omega : k + 1 ≤ L.length)
    · first | omega | (dsimp only; omega)
    · exact subset_app subset_nil ss0
  ·refine JL_dv 26 ?_; refine JC_false rfl ?_; refine JC_exit ?_; refine JE_then_exit ?_; refine JE_nextS_exit ?_; refine JE_block_exit ?_; refine JE_then ?_; refine JC_sr ?_; refine JL_a ?_; refine JL_dv 26 ?_; refine JC_ret ?_; refine JE_ret (vs := [_]) [] Tryz.results16 ⟨rfl, rfl⟩ ?_ ?_
   · exact ⟨rfl, rfl⟩
   · exact all_nil

theorem bnat_con {ad1 : Option Addr} {c1 : Nat} {ad2 : Option Addr} {c2 : Nat} {L : List Nat} (hu : U32 L) (hl : L.length ≤ 1000000000) :
    ConF Tryz.prog 17 [.agg #[.slice ad1 L.length c1], .agg #[.slice ad2 L.length c2]] [vCells ad1 (u32s L), vCells ad2 (u32s L)]
      (fun v φo => v = .bool true ∧ φo = []) := by
 refine ConF_of Tryz.func17 rfl 31 (_ :: _ :: rp 29) rfl rfl ?_; intro w0; refine JC_st [] [_, _] ?_; refine JC_sr ?_; refine JL_box rfl rfl (fun b2 => ?_); refine JL_box rfl rfl (fun b3 => ?_); refine JL_a ?_; refine JL_du 31 [box _ _ [_], box _ _ [_]] [_, _] ?_; refine JC_seq ?_; refine JC_sr ?_; refine JL_fieldAddr fo39_0 rfl ?_; refine JL_load 0 ty37 rfl rfl rfl ?_; refine JL_len sl37 rfl ?_; refine JL_fieldAddr fo39_0 rfl ?_; refine JL_load 1 ty37 rfl rfl rfl ?_; refine JL_len sl37 rfl ?_; refine JL_neq rfl rfl ?_; refine JL_split (fun h12 => ?_) (fun h12 => ?_)
 · exact absurd rfl h12
 ·refine JL_dv 31 ?_; refine JC_false rfl ?_; refine JC_skip ?_; refine JE_then ?_; refine JC_seq ?_; refine JC_sr ?_; refine JL_a ?_; refine JL_dv 31 ?_; refine JC_block ?_; refine JC_loopS ((Nat)) (fun (k : Nat) => k ≤ L.length) (fun (k : Nat) => L.length - k) (fun u (k : Nat) => (rn 4 (some (u 4) :: some (.int .i64 (k : Nat)) :: rn 7 (sc u 13 18 [])))) (fun (k : Nat) => []) (fun (k : Nat) => []) (0) kr ?_ kr ?_ ?_
  · exact Nat.zero_le _
  · exact subset_nil
  intro u k hk; refine JC_nm 31 [box _ _ [_], box _ _ [_]] [_, _] ?_
  have hL := hu.getD k
  refine JC_seq ?_; refine JC_sr ?_; refine JL_m ?_; refine JL_fieldAddr fo39_0 rfl ?_; refine JL_load 0 ty37 rfl rfl rfl ?_; refine JL_len sl37 rfl ?_; refine JL_lss rfl rfl ?_; refine JL_split (fun h17 => ?_) (fun h17 => ?_)
  ·refine JL_dv 31 ?_; refine JC_true rfl ?_; refine JC_skip ?_; refine JE_then ?_; refine JC_seq ?_; refine JC_block ?_; refine JC_seq ?_; refine JC_drawT mixed 10 [spV 20 [] _, spV 21 [0] _, spV 22 [] _, spV 23 [1, 2] _, spV 24 [3] _, spV 25 [] _, spV 26 [5] _, spV 27 [] _, spV 28 [6, 7] _, spV 29 [8] _] ⟨OblS_V (fun vals ex ψ => (by refine JL_normQ _ (_ :: _ :: ψ) rfl rfl ?_; refine JL_fieldAddr fo39_0 rfl ?_; exact vz rfl)), OblS_V (fun vals ex ψ => (by refine JL_normQ _ (_ :: _ :: ψ) rfl rfl ?_; refine JL_load 0 ty37 rfl rfl rfl ?_; exact vz rfl)), oM, OblS_V (fun vals ex ψ => (by refine JL_normQ _ (_ :: _ :: ψ) rfl rfl ?_; refine JL_idx k sl37 rfl rfl rfl om (Reads.view List.mem_cons_self) lno ?_; exact vz rfl)), OblS_V (fun vals ex ψ => (by refine JL_normQ _ (_ :: _ :: ψ) rfl rfl ?_; refine JL_loadE ty79 rfl (Reads.view List.mem_cons_self) (u32s_get om) ?_; exact vz rfl)), OblS_V (fun vals ex ψ => (by refine JL_normQ _ (_ :: _ :: ψ) rfl rfl ?_; refine JL_fieldAddr fo39_0 rfl ?_; exact vz rfl)), OblS_V (fun vals ex ψ => (by refine JL_normQ _ (_ :: _ :: ψ) rfl rfl ?_; refine JL_load 1 ty37 rfl rfl rfl ?_; exact vz rfl)), oM, OblS_V (fun vals ex ψ => (by refine JL_normQ _ (_ :: _ :: ψ) rfl rfl ?_; refine JL_idx k sl37 rfl rfl rfl om (Reads.view (List.mem_cons_of_mem _ List.mem_cons_self)) lno ?_; exact vz rfl)), OblS_V (fun vals ex ψ => (by refine JL_normQ _ (_ :: _ :: ψ) rfl rfl ?_; refine JL_loadE ty79 rfl (Reads.view (List.mem_cons_of_mem _ List.mem_cons_self)) (u32s_get om) ?_; exact vz rfl)), trivial⟩ kr (fun vals bs => ?_)
   refine JL_normL [_] ⟨31, [(20, _), (21, _), (22, _), (23, _), (24, _), (25, _), (26, _), (27, _), (28, _), (29, _)], _⟩ [box _ _ [_], box _ _ [_]] [_, _] rfl rfl rfl rfl ?_; refine JL_neq rfl rfl ?_; refine JL_split (fun h30 => ?_) (fun h30 => ?_)
   · exact absurd rfl h30
   ·refine JL_du 31 [box _ _ [_], box _ _ [_]] [_, _] ?_; refine JC_false rfl ?_; refine JC_skip ?_; refine JE_block_normal ?_; refine JE_then ?_; refine JC_region ?_; refine JL_m ?_; refine JL_add_to rfl rfl i6o ?_; refine JL_a ?_; refine JL_nv 31 ?_; refine JE_nextS (k + 1) kr ?_ ?_ kr ?_
    · exact (by omega : k + 1 ≤ L.length)
    · first | omega | (dsimp only; omega)
    · exact subset_app subset_nil ss0
  ·refine JL_dv 31 ?_; refine JC_false rfl ?_; refine JC_exit ?_; refine JE_then_exit ?_; refine JE_nextS_exit ?_; refine JE_block_exit ?_; refine JE_then ?_; refine JC_sr ?_; refine JL_a ?_; refine JL_dv 31 ?_; refine JC_ret ?_; refine JE_ret (vs := [_]) [] Tryz.results17 ⟨rfl, rfl⟩ ?_ ?_
   · exact ⟨rfl, rfl⟩
   · exact all_nil

theorem ttext_con {b n rl cr : Nat} {ar : Option Addr} {a : AT} (hf : Fit a) (ht : Tn n (er a)) (hn : n ≤ 16) :
    ConF Tryz.prog 14 [nptr b] [vCells (some ⟨b, 0, none⟩) [.int .i64 (n : Nat), ptr a, .slice ar rl cr], vA a]
      (fun v φo => v = .string (bs (tx a)) ∧ φo = []) := by
 refine ConF_of Tryz.func14 rfl 10 (_ :: rp 9) rfl rfl ?_; intro w0; refine JC_st [] [_, _] ?_; refine JC_sr ?_; refine JL_a ?_; refine JL_dv 10 ?_; refine JC_seq ?_; refine JC_sr ?_; refine JL_m ?_; refine JL_eqlPtr pt25 rfl rfl ?_; refine JL_splitV (fun h4 => ?_) (fun h4 => ?_)
 · exact absurd h4 Bool.false_ne_true
 ·refine JL_dv 10 ?_; refine JC_false rfl ?_; refine JC_skip ?_; refine JE_then ?_; refine JC_sr ?_; refine JL_m ?_; refine JL_nilCheckE rfl ?_; refine JL_fieldAddrE fo63_1 rfl rdg (show 0 < [Value.int .i64 (n : Nat), ptr a, .slice ar rl cr].length from Nat.zero_lt_succ _) ?_; refine JL_loadE ty58 rfl rdg rfl ?_; refine JL_callA' false (AsksA.cons (by first | exact holdsA_of_mem am | exact holdsA_of_fresh am) AsksA.nil) (text_con a hf ht.nodup (fun x hx => by have := ht.lt x hx; omega) (by rw [ht.lvs_len]; omega)) rfl ca41 ⟨rfl, rfl⟩ ?_; rintro _ _ ⟨rfl, rfl⟩; refine JL_a ?_; refine JL_du 10 [] [_, _] ?_; refine JC_ret ?_; refine JE_ret (vs := [_]) [] Tryz.results14 ⟨rfl, rfl⟩ ?_ ?_
  · exact ⟨rfl, rfl⟩
  · exact all_nil

theorem tcount_con {b n rl cr : Nat} {ar : Option Addr} {a : AT} (hf : Fit a) (ht : Tn n (er a)) (hn : n ≤ 16) :
    ConF Tryz.prog 18 [nptr b] [vCells (some ⟨b, 0, none⟩) [.int .i64 (n : Nat), ptr a, .slice ar rl cr], vA a]
      (LN (cntT (er a))) := by
 refine ConF_of Tryz.func18 rfl 11 (_ :: rp 10) rfl rfl ?_; intro w0; refine JC_st [] [_, _] ?_; refine JC_sr ?_; refine JL_alloc z39 (fun b2 => ?_); refine JL_du 11 [box _ _ [_]] [_, _] ?_; refine JC_seq ?_; refine JC_sr ?_; refine JL_m ?_; refine JL_eqlPtr pt25 rfl rfl ?_; refine JL_splitV (fun h4 => ?_) (fun h4 => ?_)
 · exact absurd h4 Bool.false_ne_true
 ·refine JL_dv 11 ?_; refine JC_false rfl ?_; refine JC_skip ?_; refine JE_then ?_; refine JC_sr ?_; refine JL_m ?_; refine JL_nilCheckE rfl ?_; refine JL_fieldAddrE fo63_1 rfl rdg (show 0 < [Value.int .i64 (n : Nat), ptr a, .slice ar rl cr].length from Nat.zero_lt_succ _) ?_; refine JL_loadE ty58 rfl rdg rfl ?_; refine JL_callF' (Asks.cons (holds_of_mem am) Asks.nil) (count_con a hf (by rw [ht.lvs_len]; omega)) rfl ca43 ⟨rfl, rfl⟩ ?_; rintro _ _ ⟨ad10, cap10, rfl, hk10, hm10, rfl⟩; refine JL_store (vs := [_]) 0 ty39 rfl rfl rfl ao1 rfl bleq ?_; refine JL_du 11 [box _ _ [_]] [_, _, _] ?_; refine JC_ret ?_; refine JE_ret (vs := [_]) [vCells ad10 (u32s (limbsOf (cntT (er a))))] Tryz.results18 ⟨RV.cell (vs := [_]) 0 ty39 rfl rfl ⟨rfl, trivial⟩, rfl⟩ ?_ ?_
  · exact ⟨ad10, cap10, rfl, hk10, hm10, rfl⟩
  · exact (all_cons am all_nil)

theorem tfirst_con {b n rl cr : Nat} {ar : Option Addr} {a : AT} (hf : Fit a) (ht : Tn n (er a)) (hn : n ≤ 16) :
    ConF Tryz.prog 20 [nptr b] [vCells (some ⟨b, 0, none⟩) [.int .i64 (n : Nat), ptr a, .slice ar rl cr], vA a]
      (fun v φo => ∃ (ad3 : Option Addr) (c3 : Nat), v = .slice ad3 (zs (fstT (er a))).length c3 ∧ ((zs (fstT (er a))).length ≤ c3 ∧ c3 ≤ 9223372036854775807) ∧ φo = [vCells ad3 (i64s (zs (fstT (er a))))]) := by
 refine ConF_of Tryz.func20 rfl 10 (_ :: rp 9) rfl rfl ?_; intro w0; refine JC_st [] [_, _] ?_; refine JC_sr ?_; refine JL_a ?_; refine JL_dv 10 ?_; refine JC_seq ?_; refine JC_sr ?_; refine JL_m ?_; refine JL_eqlPtr pt25 rfl rfl ?_; refine JL_splitV (fun h4 => ?_) (fun h4 => ?_)
 · exact absurd h4 Bool.false_ne_true
 ·refine JL_dv 10 ?_; refine JC_false rfl ?_; refine JC_skip ?_; refine JE_then ?_; refine JC_sr ?_; refine JL_m ?_; refine JL_nilCheckE rfl ?_; refine JL_fieldAddrE fo63_1 rfl rdg (show 0 < [Value.int .i64 (n : Nat), ptr a, .slice ar rl cr].length from Nat.zero_lt_succ _) ?_; refine JL_loadE ty58 rfl rdg rfl ?_; refine JL_callF' (Asks.cons (holds_of_mem am) Asks.nil) (first_con a hf ht.nodup (fun x hx => by have := ht.lt x hx; omega) (by rw [ht.lvs_len]; omega)) rfl ca45 ⟨rfl, rfl⟩ ?_; rintro _ _ ⟨ad9, c9, rfl, hc9, rfl⟩; refine JL_a ?_; refine JL_du 10 [] [_, _, _] ?_; refine JC_ret ?_; refine JE_ret (vs := [_]) [vCells ad9 (i64s (zs (fstT (er a))))] Tryz.results20 ⟨rfl, rfl⟩ ?_ ?_
  · exact ⟨ad9, c9, rfl, hc9, rfl⟩
  · exact (all_cons am all_nil)

theorem ttextN_con  :
    ConF Tryz.prog 14 [.pointer none] []
      (fun v φo => v = .string ⟨#[]⟩ ∧ φo = []) := by
 refine ConF_of Tryz.func14 rfl 10 (_ :: rp 9) rfl rfl ?_; intro w0; refine JC_st [] [] ?_; refine JC_sr ?_; refine JL_a ?_; refine JL_dv 10 ?_; refine JC_seq ?_; refine JC_sr ?_; refine JL_m ?_; refine JL_eqlPtr pt25 rfl rfl ?_; refine JL_splitV (fun h4 => ?_) (fun h4 => ?_)
 ·refine JL_dv 10 ?_; refine JC_true rfl ?_; refine JC_sr ?_; refine JL_a ?_; refine JL_dv 10 ?_; refine JC_ret ?_; refine JE_then_ret ?_; refine JE_ret (vs := [_]) [] Tryz.results14 ⟨rfl, rfl⟩ ?_ ?_
  · exact ⟨rfl, rfl⟩
  · exact all_nil
 · exact absurd h4 (by decide)

theorem tredN_con {x : Value} :
    ConF Tryz.prog 12 [.pointer none, x] []
      (fun v φo => v = .int .i64 1 ∧ φo = []) := by
 refine ConF_of Tryz.func12 rfl 60 (_ :: _ :: rp 58) rfl rfl ?_; intro w0; refine JC_st [] [] ?_; refine JC_sr ?_; refine JL_a ?_; refine JL_dv 60 ?_; refine JC_seq ?_; refine JC_sr ?_; refine JL_m ?_; refine JL_eqlPtr pt25 rfl rfl ?_; refine JL_splitV (fun h11 => ?_) (fun h11 => ?_)
 ·refine JL_m ?_; refine JL_gn ?_; refine JL_gn ?_; refine JL_gn ?_; refine JL_gn ?_; refine JL_gn ?_; refine JL_gn ?_; refine JL_gn ?_; refine JL_pick_t rfl rfl ?_; refine JL_dv 60 ?_; refine JC_true rfl ?_; refine JC_sr ?_; refine JL_a ?_; refine JL_dv 60 ?_; refine JC_ret ?_; refine JE_then_ret ?_; refine JE_ret (vs := [_]) [] Tryz.results12 ⟨rfl, rfl⟩ ?_ ?_
  · exact ⟨rfl, rfl⟩
  · exact all_nil
 · exact absurd h11 (by decide)

theorem small_con {ad : Option Addr} {c x : Nat} (hx : x < 18446744073709551616) :
    ConF Tryz.prog 22 [.agg #[.slice ad (limbsOf x).length c]] [vCells ad (u32s (limbsOf x))]
      (fun v φo => v = .tuple #[.int .u64 (x : Nat), .bool true] ∧ φo = []) := by
 have hxl : (limbsOf x).length ≤ 3 := limbsOf_len_of_lt om
 have hml : (limbsOf 18446744073709551615).length ≤ 3 := limbsOf_len_of_lt (by decide)
 have hval := val_limbsOf x
 refine ConF_of Tryz.func22 rfl 32 (_ :: rp 31) rfl rfl ?_; intro w0; refine JC_st [] [_] ?_; refine JC_sr ?_; refine JL_box rfl rfl (fun b1 => ?_); refine JL_a ?_; refine JL_a ?_; refine JL_du 32 [box _ _ [_]] [_] ?_; refine JC_sr ?_; refine JL_loadA (vs := [_]) 0 ty39 rfl rfl ⟨rfl, trivial⟩ ?_; refine JL_callF' (Asks.cons (holds_of_mem am) Asks.nil) (limbs_con _ _ _ _ _ (NIn.of (x := x) (K := 100000000) om)) rfl ca47 ⟨rfl, rfl⟩ ?_; rintro _ _ ⟨ad9, cap9, rfl, hk9, hm9, rfl⟩; refine JL_a ?_; refine JL_du 32 [box _ _ [_]] [_, _] ?_; refine JC_sr ?_; refine JL_callF' Asks.nil (nat_of_con 18446744073709551615 om) rfl ca28 ⟨rfl, rfl⟩ ?_; rintro _ _ ⟨ad10, cap10, rfl, hk10, hm10, rfl⟩; refine JL_callF' (Asks.cons (holds_of_mem am) Asks.nil) (limbs_con _ _ _ _ _ (NIn.of (x := 18446744073709551615) (K := 100000000) om)) rfl ca47 ⟨rfl, rfl⟩ ?_; rintro _ _ ⟨ad11, cap11, rfl, hk11, hm11, rfl⟩; refine JL_a ?_; refine JL_du 32 [box _ _ [_]] [_, _, _, _] ?_; refine JC_seq ?_; refine JC_sr ?_; refine JL_m ?_; refine JL_m ?_
 refine JL_callF' (Asks.cons (holds_of_mem am) (Asks.cons (holds_of_mem am) Asks.nil)) (compare_con _ _ _ _ _ _ x 18446744073709551615 rfl rfl om om) rfl ca48 ⟨rfl, rfl, rfl⟩ ?_; rintro _ _ ⟨rfl, rfl⟩; refine JL_gtr rfl rfl ?_; refine JL_split (fun h15 => ?_) (fun h15 => ?_)
 · exact absurd (cmpN_pos.1 h15) om
 ·refine JL_du 32 [box _ _ [_]] [_, _, _, _] ?_; refine JC_false rfl ?_; refine JC_skip ?_; refine JE_then ?_; refine JC_sr ?_; refine JL_a ?_; refine JL_dv 32 ?_; refine JC_seq ?_; refine JC_sr ?_; refine JL_m ?_; refine JL_len sl37 rfl ?_; refine JL_sub_to rfl rfl i6o ?_; refine JL_a ?_; refine JL_dv 32 ?_; refine JC_block ?_; refine JC_loopS ((Nat) × (Nat)) (fun (k, r) => k ≤ (limbsOf x).length ∧ r = val ((limbsOf x).drop k)) (fun (k, r) => k) (fun u (k, r) => (rn 6 (some (.int .u64 (r : Nat)) :: some (.int .i64 ((k : Nat) - 1 : Int)) :: rn 11 (sc u 19 12 [])))) (fun (k, r) => []) (fun (k, r) => []) ((limbsOf x).length, 0) kr ?_ kr ?_ ?_
  · exact ⟨Nat.le_refl _, by rw [List.drop_length]; rfl⟩
  · exact subset_nil
  intro u i hC; obtain ⟨k, r⟩ := i; obtain ⟨hk, hr⟩ := hC; refine JC_nm 32 [box _ _ [_]] [_, _, _, _] ?_; refine JC_seq ?_; refine JC_sr ?_; refine JL_m ?_; refine JL_geq rfl rfl ?_; refine JL_split (fun h20 => ?_) (fun h20 => ?_)
  ·refine JL_dv 32 ?_; refine JC_true rfl ?_; refine JC_skip ?_; refine JE_then ?_; refine JC_seq ?_; refine JC_block ?_
   have hv1 := val_dropS (L := limbsOf x) (k := k - 1) om
   rw [Nat.sub_add_cancel om, ← hr] at hv1
   have hv2 := val_drop_le (limbsOf x) (k - 1)
   refine JC_region ?_; refine JL_m ?_; refine JL_mul_to rfl rfl (IntWalk.u64_in _ om) ?_; refine JL_m ?_; refine JL_m ?_; refine JL_idx (k - 1) sl37 rfl rfl om om rdg lno ?_; refine JL_loadE ty79 rfl rdg (u32s_get om) ?_; refine JL_convInt us79 it43 rfl (IntWalk.u64_in _ om) ?_; refine JL_add_to rfl rfl (IntWalk.u64_in _ om) ?_; rw [show (((r : Nat) : Int) * 1000000000 + (((limbsOf x).getD (k - 1) 0 : Nat) : Int) : Int) = ((val ((limbsOf x).drop (k - 1)) : Nat) : Int) from by omega]; refine JL_a ?_; refine JL_nu 32 [box _ _ [_]] [_, _, _, _] ?_; refine JE_block_normal ?_; refine JE_then ?_; refine JC_region ?_; refine JL_m ?_; refine JL_sub_to rfl rfl i6o ?_; rw [show ((k : Int) - 1 - 1 : Int) = ((k - 1 : Nat) : Int) - 1 from by omega]; refine JL_a ?_; refine JL_nv 32 ?_; refine JE_nextS (k - 1, val ((limbsOf x).drop (k - 1))) kr ?_ ?_ kr ?_
   · exact ⟨by omega, rfl⟩
   · first | omega | (dsimp only; omega)
   · exact subset_app subset_nil ss0
  ·refine JL_dv 32 ?_; refine JC_false rfl ?_; refine JC_exit ?_; refine JE_then_exit ?_; refine JE_nextS_exit ?_; refine JE_block_exit ?_; refine JE_then ?_; refine JC_seq ?_; obtain rfl : k = 0 := by omega
   rw [List.drop_zero, hval] at hr; subst hr; refine JC_region ?_; refine JL_m ?_; refine JL_a ?_; refine JL_a ?_; refine JL_dv 32 ?_; refine JC_ret ?_; refine JE_ret (vs := [_, _]) [] Tryz.results22 ⟨rfl, rfl, rfl⟩ ?_ ?_
   · exact ⟨rfl, rfl⟩
   · exact all_nil

theorem few_con {ad : Option Addr} {c : Nat} {l : List Rw} (hc : l.length ≤ c ∧ c ≤ 9223372036854775807) :
    ConF Tryz.prog 9 [.slice ad l.length c] [vCells ad (rws l)]
      (fun v φo => v = .bool (decide (fewC l)) ∧ φo = []) := by
 refine ConF_of Tryz.func9 rfl 19 (_ :: rp 18) rfl rfl ?_; intro w0; refine JC_st [] [_] ?_; refine JC_sr ?_; refine JL_a ?_; refine JL_dv 19 ?_; refine JC_seq ?_; refine JC_sr ?_; refine JL_a ?_; refine JL_dv 19 ?_; refine JC_block ?_; refine JC_loopS ((Nat)) (fun (i : Nat) => i ≤ l.length ∧ ∀ j, j < i → (l.getD j dR).L.length ≤ 30) (fun (i : Nat) => l.length - i) (fun u (i : Nat) => (rn 2 (some (u 2) :: some (.int .i64 (i : Nat)) :: sc u 4 12 []))) (fun (i : Nat) => []) (fun (i : Nat) => []) (0) kr ?_ kr ?_ ?_
 · exact ⟨Nat.zero_le _, fun j hj => absurd hj (Nat.not_lt_zero _)⟩
 · exact subset_nil
 intro u i hC; obtain ⟨hi, hj⟩ := hC; refine JC_nm 19 [] [_] ?_; refine JC_seq ?_; refine JC_sr ?_; refine JL_m ?_; refine JL_m ?_; refine JL_len sl22 rfl ?_; refine JL_lss rfl rfl ?_; refine JL_split (fun h7 => ?_) (fun h7 => ?_)
 ·refine JL_dv 19 ?_; refine JC_true rfl ?_; refine JC_skip ?_; refine JE_then ?_; refine JC_seq ?_; refine JC_block ?_; refine JC_sr ?_; refine JL_m ?_; refine JL_m ?_; refine JL_idx i sl22 rfl rfl rfl om rdg (by rw [rws_length]; omega) ?_; refine JL_loadE ty32 rfl rdg (rws_get om) ?_; refine JL_len sl32 rfl ?_; refine JL_gtr rfl rfl ?_; refine JL_split (fun h15 => ?_) (fun h15 => ?_)
  ·refine JL_dv 19 ?_; refine JC_true rfl ?_; refine JC_sr ?_; refine JL_a ?_; refine JL_dv 19 ?_; refine JC_ret ?_; refine JE_block_ret ?_; refine JE_then_ret ?_; refine JE_nextS_ret ?_; refine JE_block_ret ?_; refine JE_then_ret ?_; refine JE_ret (vs := [_]) [] Tryz.results9 ⟨rfl, rfl⟩ ?_ ?_
   · rw [decide_eq_false (p := fewC l) (fun h => by have := h.1 i om; omega)]; exact ⟨rfl, rfl⟩
   · exact all_nil
  ·refine JL_dv 19 ?_; refine JC_false rfl ?_; refine JC_skip ?_; refine JE_block_normal ?_; refine JE_then ?_; refine JC_region ?_; refine JL_m ?_; refine JL_add_to rfl rfl i6o ?_; refine JL_a ?_; refine JL_nv 19 ?_; refine JE_nextS (i + 1) kr ?_ ?_ kr ?_
   · exact ⟨by omega, fun j hj2 => by
     by_cases e : j = i
     · subst e; omega
     · exact hj j om⟩
   · first | omega | (dsimp only; omega)
   · exact subset_app subset_nil ss0
 ·refine JL_dv 19 ?_; refine JC_false rfl ?_; refine JC_exit ?_; refine JE_then_exit ?_; refine JE_nextS_exit ?_; refine JE_block_exit ?_; refine JE_then ?_; refine JC_sr ?_; refine JL_m ?_; refine JL_len sl22 rfl ?_; refine JL_leq rfl rfl ?_; refine JL_a ?_; refine JL_dv 19 ?_; refine JC_ret ?_; refine JE_ret (vs := [_]) [] Tryz.results9 ⟨rfl, rfl⟩ ?_ ?_
  · exact ⟨congrArg Value.bool (decide_eq_decide.2 ⟨fun h => ⟨fun j hj2 => hj j om, by omega⟩, fun h => by have := h.2; omega⟩), rfl⟩
  · exact all_nil

set_option maxHeartbeats 2000000 in
theorem awake_con  :
    ConF Tryz.prog 8 [] []
      (fun v φo => v = .bool true ∧ φo = []) := by
 refine ConF_of Tryz.func8 rfl 52 (rp 52) rfl rfl ?_; intro w0; refine JC_st [] [] ?_; refine JC_sr ?_; refine JL_a ?_; refine JL_dv 52 ?_; refine JC_sr ?_; refine JL_callO0 AsksO.nil (new_con (n := 4) om om) rfl ca10 ⟨rfl, rfl⟩ ?_; rintro _ _ _ ⟨b8, a8, rfl, rfl, rfl, hf8, hn8⟩; refine JL_norm _ [box _ _ [_, _, _], osl _ _ _ _ _ _] [_, _] rfl rfl rfl ?_; rw [ex_new] at hn8; refine JL_m ?_; refine JL_extract (v := .pointer (some ⟨b8, 0, none⟩)) rfl rfl ?_; refine JL_extract (v := .int .i64 0) rfl rfl ?_; refine JL_a ?_; refine JL_a ?_; refine JL_du 52 [box _ _ [_, _, _], osl _ _ _ _ _ _] [_, _] ?_; refine JC_seq ?_; refine JC_sr ?_; refine JL_m ?_; refine JL_neq rfl rfl ?_; refine JL_split (fun h12 => ?_) (fun h12 => ?_)
 · exact absurd rfl h12
 ·refine JL_m ?_; refine JL_gy ?_; refine JL_m ?_; refine JL_gy ?_; refine JL_eqlPtr pt25 rfl rfl ?_; refine JL_splitV (fun h15 => ?_) (fun h15 => ?_)
  · exact absurd h15 Bool.false_ne_true
  ·refine JL_pick_f rfl rfl ?_; refine JL_m ?_; refine JL_gy ?_; refine JL_m ?_; refine JL_gy ?_; refine JL_callF' (Asks.cons (by first | exact holds_of_mem am | (exact holds_of_box 0 rfl) | (exact holds_of_own 1 rfl)) (Asks.cons (by first | exact holds_of_mem am | (exact holds_of_box 0 rfl) | (exact holds_of_own 1 rfl)) Asks.nil)) (ttext_con (a := a8) (n := 4) hf8 (by rw [hn8]; exact ex_T0) om) rfl ca14 ⟨rfl, rfl⟩ ?_; rintro _ _ ⟨rfl, rfl⟩; rw [show tx a8 = [40, 48, 32, 49, 32, 50, 32, 51, 41] from by show textT dd (er a8) = _; rw [hn8]; exact ex_text0, show bs [40, 48, 32, 49, 32, 50, 32, 51, 41] = ⟨#[40, 48, 32, 49, 32, 50, 32, 51, 41]⟩ from rfl]; refine JL_gy ?_; refine JL_neqS rfl rfl ?_; refine JL_splitV (fun h20 => ?_) (fun h20 => ?_)
   · exact absurd h20 (by simp)
   ·refine JL_pick_f rfl rfl ?_; refine JL_du 52 [box _ _ [_, _, _], osl _ _ _ _ _ _] [_, _] ?_; refine JC_false rfl ?_; refine JC_skip ?_; refine JE_then ?_; refine JC_sr ?_; refine JL_addNil 3 1 ?_; refine JL_addNil 3 1 ?_; refine JL_m ?_; refine JL_buildN (cs0 := [.int .i64 0, .int .i64 0]) (cs := [_, _]) [(0, [_]), (1, [_])] sl32 kr ⟨⟨rfl, _, rfl, rfl⟩, ⟨rfl, _, rfl, rfl⟩, rfl⟩ rfl rfl rfl rfl (fun g23 => ?_); refine JL_norm _ [box _ _ [_, _, _], osl _ _ _ _ _ _, osl _ _ _ _ _ _, osl _ _ _ _ _ _, osl _ _ _ _ _ (i64s ([0, 2]))] [_, _] rfl rfl rfl ?_; refine JL_give 4 rfl ?_; refine JL_norm _ [box _ _ [_, _, _], osl _ _ _ _ _ _, osl _ _ _ _ _ _, osl _ _ _ _ _ _] [_, _, _] rfl rfl rfl ?_; refine JL_callO (AsksO.cons am (AsksO.cons am (AsksO.cons am AsksO.nil))) (tred_con (n := 4) (L := [0, 2]) (l := []) om hf8 (by rw [hn8]; exact ex_T0) (Nat.zero_le _) (by decide)) rfl ca12 ⟨rfl, rfl, rfl⟩ ?_; rintro _ _ _ ⟨e24, a24, l24, ar24, cr24, rfl, rfl, rfl, hf24, hl24, hx24⟩
    have hE24 : e24 = 0 := by rw [hx24.he, hn8]; exact redE_of ex_asc1 ex_red1
    have hT24 : er a24 = ex1 := by rw [hx24.ht, hn8]; exact redT_of ex_asc1 ex_red1
    subst hE24; refine JL_a ?_; refine JL_du 52 [box _ _ [_, _, _], osl _ _ _ _ _ _, _, _] [_, _, _, _, _] ?_; refine JC_sr ?_; refine JL_m ?_; refine JL_buildN (cs0 := [.int .i64 0, .int .i64 0]) (cs := [_, _]) [(0, [_]), (1, [_])] sl32 kr ⟨⟨rfl, _, rfl, rfl⟩, ⟨rfl, _, rfl, rfl⟩, rfl⟩ rfl rfl rfl rfl (fun g26 => ?_); refine JL_norm _ [box _ _ [_, _, _], osl _ _ _ _ _ _, _, _, osl _ _ _ _ _ (i64s ([2, 3]))] [_, _, _, _, _] rfl rfl rfl ?_; refine JL_give 4 rfl ?_; refine JL_norm _ [box _ _ [_, _, _], osl _ _ _ _ _ _, _, _] [_, _, _, _, _, _] rfl rfl rfl ?_; refine JL_callO (AsksO.cons am (AsksO.cons am (AsksO.cons am AsksO.nil))) (tred_con (n := 4) (L := [2, 3]) (l := l24) om hf24 (by rw [hT24]; exact ex_T1) (by have : ([] : List Rw).length = 0 := rfl; omega) (by decide)) rfl ca12 ⟨rfl, rfl, rfl⟩ ?_; rintro _ _ _ ⟨e27, a27, l27, ar27, cr27, rfl, rfl, rfl, hf27, hl27, hx27⟩
    have hE27 : e27 = 0 := by rw [hx27.he, hT24]; exact redE_of ex_asc2 ex_red2
    have hT27 : er a27 = ex2 := by rw [hx27.ht, hT24]; exact redT_of ex_asc2 ex_red2
    subst hE27; refine JL_a ?_; refine JL_du 52 [box _ _ [_, _, _], osl _ _ _ _ _ _, _, _] [_, _, _, _, _, _, _, _] ?_; refine JC_sr ?_; refine JL_m ?_; refine JL_callF' (Asks.cons (by first | exact holds_of_mem am | (exact holds_of_box 0 rfl) | (exact holds_of_own 1 rfl)) (Asks.cons (by first | exact holds_of_mem am | (exact holds_of_box 0 rfl) | (exact holds_of_own 1 rfl)) Asks.nil)) (tcount_con (a := a27) (n := 4) hf27 (by rw [hT27]; exact ex_T2) om) rfl ca18 ⟨rfl, rfl⟩ ?_; rintro _ _ ⟨ad30, cap30, rfl, hk30, hm30, rfl⟩; rw [hT27, ex_cnt]; refine JL_callF' (Asks.cons (by first | exact holds_of_mem am | (exact holds_of_own 1 rfl)) Asks.nil) (small_con (x := 4) om) rfl ca22 ⟨rfl, rfl⟩ ?_; rintro _ _ ⟨rfl, rfl⟩; refine JL_m ?_; refine JL_extract (v := .int .u64 ((4 : Nat) : Int)) rfl rfl ?_; refine JL_extract (v := .bool true) rfl rfl ?_; refine JL_a ?_; refine JL_a ?_; refine JL_du 52 [box _ _ [_, _, _], osl _ _ _ _ _ _, _, _] [_, _, _, _, _, _, _, _, _] ?_; refine JC_sr ?_; refine JL_m ?_; refine JL_eql rfl rfl ?_; refine JL_split (fun h35 => ?_) (fun h35 => ?_)
    ·refine JL_m ?_; refine JL_gy ?_; refine JL_m ?_; refine JL_gy ?_; refine JL_eql rfl rfl ?_; refine JL_split (fun h38 => ?_) (fun h38 => ?_)
     ·refine JL_pick_t rfl rfl ?_; refine JL_m ?_; refine JL_gy ?_; refine JL_m ?_; refine JL_gy ?_; refine JL_callF' (Asks.cons (by first | exact holds_of_mem am | (exact holds_of_box 0 rfl) | (exact holds_of_own 1 rfl)) (Asks.cons (by first | exact holds_of_mem am | (exact holds_of_box 0 rfl) | (exact holds_of_own 1 rfl)) Asks.nil)) (ttext_con (a := a27) (n := 4) hf27 (by rw [hT27]; exact ex_T2) om) rfl ca14 ⟨rfl, rfl⟩ ?_; rintro _ _ ⟨rfl, rfl⟩; rw [show tx a27 = [40, 91, 48, 32, 50, 32, 51, 93, 32, 49, 41] from by show textT dd (er a27) = _; rw [hT27]; exact ex_text2, show bs [40, 91, 48, 32, 50, 32, 51, 93, 32, 49, 41] = ⟨#[40, 91, 48, 32, 50, 32, 51, 93, 32, 49, 41]⟩ from rfl]; refine JL_gy ?_; refine JL_eqlS rfl rfl ?_; refine JL_splitV (fun h43 => ?_) (fun h43 => ?_)
      ·refine JL_pick_t rfl rfl ?_; refine JL_m ?_; refine JL_gy ?_; refine JL_m ?_; refine JL_pick_t rfl rfl ?_; refine JL_m ?_; refine JL_gy ?_; refine JL_m ?_; refine JL_gy ?_; refine JL_eql rfl rfl ?_; refine JL_split (fun h50 => ?_) (fun h50 => ?_)
       ·refine JL_pick_t rfl rfl ?_; refine JL_a ?_; refine JL_du 52 [box _ _ [_, _, _], osl _ _ _ _ _ _, _, _] [_, _, _, _, _, _, _, _, _] ?_; refine JC_ret ?_; refine JE_ret (vs := [_]) [] Tryz.results8 ⟨rfl, rfl⟩ ?_ ?_
        · exact ⟨rfl, rfl⟩
        · exact all_nil
       · exact absurd rfl h50
      · exact absurd h43 (by simp)
     · exact absurd rfl h38
    · exact absurd rfl h35

end Go.Fw.K
