/- Walks through functions of the given program: each meets its contract. (Printed by a program of this repo.) -/
import Derived.Test.YtmambmpohkollaaGreatDoorA2
import Derived.Test.YtmambmpohkollaaGreatDoorFwEE
import Derived.Test.YtmambmpohkollaaGreatDoorProg
namespace Go.Fw.A3
open Go Go.RowKit Go.Proofs Go.Nat9 Go.Fw
attribute [local irreducible] JC JL JE
theorem ca61 : callable Tryz.prog 61 = true := by kernel_rfl
theorem ca62 : callable Tryz.prog 62 = true := by kernel_rfl
theorem sl22 : slOf Tryz.prog 22 = some (3, 1, 8, [.int .i64 0]) := by kernel_rfl
theorem sl41 : slOf Tryz.prog 41 = some (22, 1, 24, [.slice none 0 0]) := by kernel_rfl
theorem ty22 : tyOf Tryz.prog 22 = some (false, 1) := by kernel_rfl
theorem z22 : zeroOf Tryz.prog 22 = some [.slice none 0 0] := by kernel_rfl
end Go.Fw.A3
namespace Go.Fw.K
open Go Go.RowKit Go.Proofs Go.Nat9 Go.Fw Go.Fw.A3
attribute [local irreducible] JC JL JE

open Go.Fw.Cn
set_option maxHeartbeats 4000000 in
theorem matQ_con {ada adb : Option Addr} {ca cb : Nat} {A B : List Rw} (hA : A.length ≤ 40) (hB : B.length ≤ 40) (hcb : B.length ≤ cb ∧ cb ≤ 9223372036854775807) (hAr : ∀ r ∈ A, r.L.length ≤ 1000) (hBr : ∀ r ∈ B, r.L.length ≤ 1000) :
    ConQ Tryz.prog 36 [.slice ada A.length ca, .slice adb B.length cb] [] [vCells ada (rws A), vRws A, vCells adb (rws B), vRws B]
      (fun v rout φo => ∃ (ad : Option Addr) (c : Nat) (o : List Nat) (ok : Bool), v = .tuple #[.slice ad (zs o).length c, .bool ok] ∧ rout = [osl ad (zs o).length c 3 1 (i64s (zs o))] ∧ φo = [] ∧ mt (Rls B) (Rls A) B.length A.length = (if ok = true then some o else none)) := by
 refine ConQ_of Tryz.func36 rfl 47 (_ :: _ :: rp 45) rfl rfl ?_; intro w0 p0 p1; refine JC_st [] [_, _, _, _, _, _] ?_; refine JC_sr ?_; refine JL_a ?_; refine JL_a ?_; refine JL_dv 47 ?_; refine JC_sr ?_; refine JL_a ?_; refine JL_dv 47 ?_; refine JC_seq ?_; refine JC_sr ?_; refine JL_m ?_; refine JL_len sl41 rfl ?_; refine JL_m ?_; refine JL_dv 47 ?_; refine JC_block ?_; refine JC_addNil 3 1 ?_; refine JC_nw [osl _ _ _ _ _ _] [_, _, _, _, _, _] ?_; refine JC_loopS ((Nat) × (List Nat) × (Option Addr) × (Nat)) (fun (i, o, ado, co) => i ≤ A.length ∧ MI (Rls B) (Rls A) i o) (fun (i, o, ado, co) => A.length - i) (fun u (i, o, ado, co) => (rn 4 (sc u 4 2 (some (.slice ado (zs o).length co) :: none :: sc u 8 3 (rn 2 (some (.int .i64 (i : Nat)) :: sc u 14 32 [])))))) (fun (i, o, ado, co) => [some (osl ado (zs o).length co 3 1 (i64s (zs o)))]) (fun (i, o, ado, co) => []) (0, [], none, 0) kr ?_ kr ?_ ?_
 · exact ⟨Nat.zero_le _, MI.zero _ _⟩
 · exact subset_nil
 intro u i hC; obtain ⟨i, o, ado, co⟩ := i; obtain ⟨hi, hI⟩ := hC; refine JC_nm 47 [osl _ _ _ _ _ _] [_, _, _, _, _, _] ?_
 have hol := hI.2
 have hzl := zs_length o
 refine JC_sr ?_; refine JL_lss rfl rfl ?_; refine JL_split (fun h14 => ?_) (fun h14 => ?_)
 ·refine JL_dv 47 ?_; refine JC_seq ?_; refine JC_true rfl ?_; refine JC_skip ?_; refine JE_then ?_; refine JC_seq ?_; refine JC_block ?_; refine JC_seq ?_
  have hkm := rw_mem (l := A) (i := i) om
  refine JC_rwGet (f := false) (A.getD i dR) am hkm ?_; refine JC_region ?_; refine JL_idx i sl41 rfl rfl om om rdg (by rw [rws_length]; omega) ?_; refine JL_loadE ty22 rfl rdg (rws_get om) ?_; refine JL_alloc z22 (fun b8 => ?_); refine JL_store (vs := [_]) 1 ty22 rfl rfl rfl ao1 rfl bleq ?_; refine JL_du 47 [osl _ _ _ _ _ _, box _ _ [_]] [_, _, _, _, _, _, _] ?_; refine JC_sr ?_; refine JL_m ?_; refine JL_giveBox 1 rfl ?_; refine JL_norm _ [osl _ _ _ _ _ _] [_, _, _, _, _, _, _, _] rfl rfl rfl ?_; refine JL_makeFunc (vs := [_]) ⟨rfl, rfl⟩ ?_
  refine JL_callF' (Asks.cons (holds_of_mem (by repeat (first | with_reducible exact mm0 | refine mmS ?_))) (Asks.cons (holds_of_mem (by repeat (first | with_reducible exact mm0 | refine mmS ?_))) (Asks.cons (Asks.list (l := [vCells (some ⟨b8, 0, none⟩) [(A.getD i dR).v], vCells (A.getD i dR).ad (i64s (A.getD i dR).L)]) (Asks.cons (holds_of_mem (by repeat (first | with_reducible exact mm0 | refine mmS ?_))) (Asks.cons (holds_of_mem (by repeat (first | with_reducible exact mm0 | refine mmS ?_))) Asks.nil))) Asks.nil))) (idxC_con (l := B) (f := 63) (caps := [.pointer (some ⟨b8, 0, none⟩)]) (vc := vList [vCells (some ⟨b8, 0, none⟩) [(A.getD i dR).v], vCells (A.getD i dR).ad (i64s (A.getD i dR).L)]) om kr (fun q => decide ((A.getD i dR).L = ((B).getD q dR).L)) (fun q hq => ConF.ofList (ps := [vCells ((B).getD q dR).ad (i64s ((B).getD q dR).L)]) (mcl1_con (adu := (some ⟨b8, 0, none⟩)) (hAr _ hkm) (hBr _ (rw_mem om))))) rfl ca62 ⟨rfl, rfl, rfl⟩ ?_; rintro _ _ ⟨r19, rfl, rfl, hr19⟩; refine JL_a ?_; refine JL_du 47 [osl _ _ _ _ _ _] [_, _, _, _, _, _, _, _] ?_; refine JC_seq ?_; refine JC_block ?_
  refine JC_loopS ((Int)) (fun (r : Int) => KI B (A.getD i dR).L o r) (fun (r : Int) => (((B.length : Nat) : Int) - r).toNat) (fun u (r : Int) => (rn 4 (sc u 4 2 (rn 3 (some (.int .i64 r) :: some (u 10) :: rn 9 (sc u 20 19 [])))))) (fun (r : Int) => []) (fun (r : Int) => []) (r19) kr ?_ kr ?_ ?_
  · exact KI.of hr19
  · exact subset_nil
  intro u r hK; refine JC_nm 47 [osl _ _ _ _ _ _] [_, _, _, _, _, _, _, _] ?_
  have hkb := hK.le
  refine JC_seq ?_; refine JC_seq ?_
  rcases hK.three with ⟨rfl, hn⟩ | ⟨k, rfl, hMK, hko⟩ | ⟨k, rfl, hMK, hko⟩
  ·refine JC_region ?_; refine JL_m ?_; refine JL_geq rfl rfl ?_; rw [decide_eq_false (p := (0 : Int) ≤ -1) om]; refine JL_m ?_; refine JL_gn ?_; refine JL_gn ?_; refine JL_gn ?_; refine JL_pick_f rfl rfl ?_; refine JL_dv 47 ?_; refine JC_false rfl ?_; refine JC_exit ?_; refine JE_then_exit ?_; refine JE_nextS_exit ?_; refine JE_block_exit ?_; refine JE_then ?_; refine JC_seq ?_; refine JC_sr ?_; refine JL_m ?_; refine JL_lss rfl rfl ?_; refine JL_split (fun h40 => ?_) (fun h40 => ?_)
   ·refine JL_dv 47 ?_; refine JC_true rfl ?_; refine JC_sr ?_; refine JL_a ?_; refine JL_a ?_; refine JL_dv 47 ?_; refine JC_ret ?_; refine JE_then_ret ?_; refine JE_block_ret ?_; refine JE_then_ret ?_; refine JE_nextS_ret ?_; refine JE_block_ret ?_; refine JE_then_ret ?_; refine JE_dropAt 0 ?_; refine JE_norm _ [] [_, _, _, _, _, _, _, _] rfl rfl rfl ?_; refine JE_addNil 3 1 ?_; refine JE_retO (vs := [_, _]) [] Tryz.results36 ⟨rfl, rfl, rfl⟩ ?_ ?_ am am
    · exact ⟨none, 0, [], false, rfl, rfl, rfl, hI.noR om hn⟩
    · exact all_nil
   · exact absurd (by decide) h40
  ·have hkl := hMK.lt
   rw [Rls_len] at hkl; refine JC_region ?_; refine JL_m ?_; refine JL_geq rfl rfl ?_; rw [decide_eq_true (p := (0 : Int) ≤ ((k : Nat) : Int)) om]; refine JL_m ?_; refine JL_gy ?_; refine JL_m ?_; refine JL_gy ?_; refine JL_m ?_; refine JL_gy ?_; refine JL_callF' (Asks.cons (by first | exact holds_of_mem am | (exact holds_of_own 0 rfl)) Asks.nil) (contV_con (by rw [zs_length]; omega)) rfl ca61 ⟨rfl, rfl, rfl⟩ ?_; rintro _ _ ⟨rfl, rfl⟩; rw [decide_eq_true (p := ((k : Nat) : Int) ∈ zs o) (zs_mem.2 hko)]; refine JL_pick_t rfl rfl ?_; refine JL_du 47 [osl _ _ _ _ _ _] [_, _, _, _, _, _, _, _] ?_; refine JC_true rfl ?_; refine JC_skip ?_; refine JE_then ?_; refine JC_block ?_; refine JC_seq ?_; refine JC_addView (f := false) (p := vCells (subAd adb cb (k + 1) 1) (rws (B.drop (k + 1)))) (fun w s => rwsDrop cb (k + 1) hcb.1 (s.views _ (show (false, vCells adb (rws B)) ∈ _ from am))) ?_; refine JC_addView (f := false) (p := vRws (B.drop (k + 1))) (fun _ s x hx => s.views _ (show (false, vRws B) ∈ _ from am) x (List.mem_of_mem_drop hx)) ?_; refine JC_region ?_; refine JL_m ?_; refine JL_m ?_
   refine JL_add_to rfl rfl i6o ?_; refine JL_slice (k + 1) B.length cb sl41 rfl (.some rfl rfl) .none .none (.inl rfl) om hcb.1 om ?_; rw [show B.length - (k + 1) = (B.drop (k + 1)).length from List.length_drop.symm]; refine JL_makeFunc (vs := [_]) ⟨rfl, rfl⟩ ?_
   refine JL_callF' (Asks.cons (holds_of_mem (by repeat (first | with_reducible exact mm0 | refine mmS ?_))) (Asks.cons (holds_of_mem (by repeat (first | with_reducible exact mm0 | refine mmS ?_))) (Asks.cons (Asks.list (l := [vCells (some ⟨b8, 0, none⟩) [(A.getD i dR).v], vCells (A.getD i dR).ad (i64s (A.getD i dR).L)]) (Asks.cons (holds_of_mem (by repeat (first | with_reducible exact mm0 | refine mmS ?_))) (Asks.cons (holds_of_mem (by repeat (first | with_reducible exact mm0 | refine mmS ?_))) Asks.nil))) Asks.nil))) ((have hdl : (B.drop (k + 1)).length ≤ 40 := (by rw [List.length_drop]; omega); idxC_con (l := B.drop (k + 1)) (f := 65) (caps := [.pointer (some ⟨b8, 0, none⟩)]) (vc := vList [vCells (some ⟨b8, 0, none⟩) [(A.getD i dR).v], vCells (A.getD i dR).ad (i64s (A.getD i dR).L)]) om kr (fun q => decide ((A.getD i dR).L = ((B.drop (k + 1)).getD q dR).L)) (fun q hq => ConF.ofList (ps := [vCells ((B.drop (k + 1)).getD q dR).ad (i64s ((B.drop (k + 1)).getD q dR).L)]) (mcl2_con (adu := (some ⟨b8, 0, none⟩)) (hAr _ hkm) (hBr _ (List.mem_of_mem_drop (rw_mem hq))))))) rfl ca62 ⟨rfl, rfl, rfl⟩ ?_; rintro _ _ ⟨r32, rfl, rfl, hr32⟩
   have hb32 := first_lt hr32
   rw [List.length_drop] at hb32; refine JL_a ?_; refine JL_du 47 [osl _ _ _ _ _ _] [_, _, _, _, _, _, _, _, _, _] ?_; refine JC_seq ?_; refine JC_sr ?_; refine JL_m ?_; refine JL_lss rfl rfl ?_; refine JL_split (fun h34 => ?_) (fun h34 => ?_)
   ·refine JL_dv 47 ?_; refine JC_true rfl ?_; refine JC_sr ?_; refine JL_a ?_; refine JL_a ?_; refine JL_dv 47 ?_; refine JC_ret ?_; refine JE_then_ret ?_; refine JE_block_ret ?_; refine JE_nextS_ret ?_; refine JE_block_ret ?_; refine JE_then_ret ?_; refine JE_block_ret ?_; refine JE_then_ret ?_; refine JE_nextS_ret ?_; refine JE_block_ret ?_; refine JE_then_ret ?_; refine JE_dropAt 0 ?_; refine JE_norm _ [] [_, _, _, _, _, _, _, _, _, _] rfl rfl rfl ?_; refine JE_addNil 3 1 ?_; refine JE_retO (vs := [_, _]) [] Tryz.results36 ⟨rfl, rfl, rfl⟩ ?_ ?_ am am
    · exact ⟨none, 0, [], false, rfl, rfl, rfl, hI.noR om (KI.stop hMK hko hr32 h34)⟩
    · exact all_nil
   ·refine JL_dv 47 ?_; refine JC_false rfl ?_; refine JC_skip ?_; refine JE_then ?_; refine JC_region ?_; refine JL_m ?_; refine JL_m ?_; refine JL_add_to rfl rfl i6o ?_; refine JL_add_to rfl rfl i6o ?_; refine JL_a ?_; refine JL_nv 47 ?_; refine JE_block_normal ?_; refine JE_nextS ((k : Int) + (1 + r32)) kr ?_ ?_ kr ?_
    · exact KI.next hMK hko hr32 h34
    · first | omega | (dsimp only; omega)
    · exact subset_app subset_nil (ssS (ssS ss0))
  ·have hkl := hMK.lt
   rw [Rls_len] at hkl; refine JC_region ?_; refine JL_m ?_; refine JL_geq rfl rfl ?_; rw [decide_eq_true (p := (0 : Int) ≤ ((k : Nat) : Int)) om]; refine JL_m ?_; refine JL_gy ?_; refine JL_m ?_; refine JL_gy ?_; refine JL_m ?_; refine JL_gy ?_; refine JL_callF' (Asks.cons (by first | exact holds_of_mem am | (exact holds_of_own 0 rfl)) Asks.nil) (contV_con (by rw [zs_length]; omega)) rfl ca61 ⟨rfl, rfl, rfl⟩ ?_; rintro _ _ ⟨rfl, rfl⟩; rw [decide_eq_false (p := ((k : Nat) : Int) ∈ zs o) (fun h => hko (zs_mem.1 h))]; refine JL_pick_t rfl rfl ?_; refine JL_du 47 [osl _ _ _ _ _ _] [_, _, _, _, _, _, _, _] ?_; refine JC_false rfl ?_; refine JC_exit ?_; refine JE_then_exit ?_; refine JE_nextS_exit ?_; refine JE_block_exit ?_; refine JE_then ?_; refine JC_seq ?_; refine JC_sr ?_; refine JL_m ?_; refine JL_lss rfl rfl ?_; refine JL_split (fun h40 => ?_) (fun h40 => ?_)
   · exact absurd h40 om
   ·refine JL_dv 47 ?_; refine JC_false rfl ?_; refine JC_skip ?_; refine JE_then ?_; refine JC_region ?_; refine JL_m ?_; refine JL_m ?_; refine JL_build1 sl22 rfl rfl (fun g43 => ?_); refine JL_appendI (L := zs o) 0 1 sl22 rfl rfl rfl rfl om om (fun ad44 cap44 hc44 => ?_); refine JL_dropAt 1 ?_; refine JL_norm _ [osl _ _ _ _ _ _] [_, _, _, _, _, _, _, _] rfl rfl rfl ?_; rw [show (zs o).length + 1 = (zs (o ++ [k])).length from (by rw [zs_snoc, List.length_append]; rfl), ← zs_snoc]; refine JL_a ?_; refine JL_nu 47 [osl _ _ _ _ _ _] [_, _, _, _, _, _, _, _] ?_; refine JE_block_normal ?_; refine JE_then ?_; refine JC_region ?_; refine JL_add_to rfl rfl i6o ?_; refine JL_m ?_; refine JL_nv 47 ?_; refine JE_nextS (i + 1, o ++ [k], ad44, cap44) kr ?_ ?_ kr ?_
    · exact ⟨by omega, hI.stepR om hMK hko⟩
    · first | omega | (dsimp only; omega)
    · exact subset_app subset_nil (ssS (ssS ss0))
 ·refine JL_dv 47 ?_; refine JC_seq ?_; refine JC_false rfl ?_; refine JC_exit ?_; refine JE_then_exit ?_; refine JE_nextS_exit ?_; refine JE_block_exit ?_; refine JE_then ?_; refine JC_sr ?_; refine JL_m ?_; refine JL_a ?_; refine JL_a ?_; refine JL_dv 47 ?_; refine JC_ret ?_; refine JE_retO (vs := [_, _]) [] Tryz.results36 ⟨rfl, rfl, rfl⟩ ?_ ?_ am am
  · exact ⟨ado, co, o, true, rfl, rfl, rfl, hI.all om⟩
  · exact all_nil

theorem mat_con {ada adb : Option Addr} {ca cb : Nat} {A B : List Rw} (hA : A.length ≤ 40) (hB : B.length ≤ 40) (hcb : B.length ≤ cb ∧ cb ≤ 9223372036854775807) (hAr : ∀ r ∈ A, r.L.length ≤ 1000) (hBr : ∀ r ∈ B, r.L.length ≤ 1000) :
    ConF Tryz.prog 36 [.slice ada A.length ca, .slice adb B.length cb] [vCells ada (rws A), vRws A, vCells adb (rws B), vRws B]
      (fun v φo => ∃ (ad : Option Addr) (c : Nat) (o : List Nat) (ok : Bool), v = .tuple #[.slice ad (zs o).length c, .bool ok] ∧ φo = [vCells ad (i64s (zs o))] ∧ mt (Rls B) (Rls A) B.length A.length = (if ok = true then some o else none)) :=
  ConQ.toF (matQ_con hA hB hcb hAr hBr) (by rintro v rout φo ⟨ad, c, o, ok, rfl, rfl, rfl, hm⟩; exact ⟨_, _, _, _, _, _, rfl, ad, c, o, ok, rfl, rfl, hm⟩)

end Go.Fw.K
