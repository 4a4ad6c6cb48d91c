/- Walks through functions of the given program: each meets its contract. (Printed by a program of this repo.) -/
import Derived.Test.YtjkbamfcoiikmaaGreatDoorMB
import Derived.Test.YtjkbamfcoiikmaaGreatDoorPqKM
import Derived.Test.YtjkbamfcoiikmaaGreatDoorProg
namespace Go.Fw.MC
open Go Go.RowKit Go.Proofs Go.Nat9 Go.Fw
attribute [local irreducible] JC JL JE
theorem ca35 : callable Tryz.prog 35 = true := by kernel_rfl
theorem ca37 : callable Tryz.prog 37 = true := by kernel_rfl
theorem ca38 : callable Tryz.prog 38 = true := by kernel_rfl
theorem ca39 : callable Tryz.prog 39 = true := by kernel_rfl
theorem fo63_0 : fOf Tryz.prog 63 0 = some 0 := by kernel_rfl
theorem fo63_1 : fOf Tryz.prog 63 1 = some 1 := by kernel_rfl
theorem fo63_2 : fOf Tryz.prog 63 2 = some 2 := by kernel_rfl
theorem mixed : Tryz.prog.follows .mixedOrders = true := by kernel_rfl
theorem mp72 : Tryz.prog.underlying 72 = some (.map 3 4) := by kernel_rfl
theorem pt25 : Tryz.prog.underlying 25 = some (.pointer (Tryz.prog.pointee 25)) := by kernel_rfl
theorem sl22 : slOf Tryz.prog 22 = some (32, 1, 24, [.slice none 0 0]) := by kernel_rfl
theorem sl32 : slOf Tryz.prog 32 = some (3, 1, 8, [.int .i64 0]) := by kernel_rfl
theorem sl57 : slOf Tryz.prog 57 = some (58, 1, 8, [.pointer none]) := by kernel_rfl
theorem st60 : stOf Tryz.prog 60 = some ([(0, 1), (1, 1), (2, 1)], [.int .i64 0, .bool false, .slice none 0 0]) := by kernel_rfl
theorem st63 : stOf Tryz.prog 63 = some ([(0, 1), (1, 1), (2, 1)], [.int .i64 0, .pointer none, .slice none 0 0]) := by kernel_rfl
theorem ty22 : tyOf Tryz.prog 22 = some (false, 1) := by kernel_rfl
theorem ty3 : tyOf Tryz.prog 3 = some (false, 1) := by kernel_rfl
theorem ty58 : tyOf Tryz.prog 58 = some (false, 1) := by kernel_rfl
end Go.Fw.MC
namespace Go.Fw.K
open Go Go.RowKit Go.Proofs Go.Nat9 Go.Fw Go.Fw.MC
attribute [local irreducible] JC JL JE

open Go.Fw.Pq
set_option maxHeartbeats 1000000 in
theorem asc_con {ad : Option Addr} {c : Nat} {L : List Int} (hln : L.length ≤ 1000000) {n : Nat} :
    ConF Tryz.prog 37 [.slice ad L.length c, .int .i64 (n : Nat)] [vCells ad (i64s L)]
      (fun v φo => v = .bool (decide (ascR L n)) ∧ φo = []) := by
 refine ConF_of Tryz.func37 rfl 35 (_ :: _ :: rp 33) rfl rfl ?_; intro w0; refine JC_st [] [_] ?_; refine JC_sr ?_; refine JL_a ?_; refine JL_dv 35 ?_; refine JC_seq ?_; refine JC_sr ?_; refine JL_m ?_; refine JL_len sl32 rfl ?_; refine JL_m ?_; refine JL_dv 35 ?_; refine JC_block ?_; refine JC_loopS ((Nat)) (fun (i : Nat) => i ≤ L.length ∧ ∀ j, j < i → okA L n j) (fun (i : Nat) => L.length - i) (fun u (i : Nat) => (rn 4 (sc u 4 3 (rn 2 (some (.int .i64 (i : Nat)) :: sc u 10 25 []))))) (fun (i : Nat) => []) (fun (i : Nat) => []) (0) kr ?_ kr ?_ ?_
 · exact ⟨Nat.zero_le _, fun j hj => absurd hj (Nat.not_lt_zero _)⟩
 · exact subset_nil
 intro u i hC; obtain ⟨hi, hj⟩ := hC; refine JC_nm 35 [] [_] ?_; refine JC_sr ?_; refine JL_lss rfl rfl ?_; refine JL_split (fun h10 => ?_) (fun h10 => ?_)
 ·refine JL_dv 35 ?_; refine JC_seq ?_; refine JC_true rfl ?_; refine JC_skip ?_; refine JE_then ?_; refine JC_seq ?_; refine JC_block ?_; refine JC_sr ?_; refine JL_m ?_; refine JL_idx i sl32 rfl rfl rfl om rdg lno ?_; refine JL_loadE ty3 rfl rdg (i64s_get om) ?_; refine JL_a ?_; refine JL_a ?_; refine JL_dv 35 ?_; refine JC_seq ?_; refine JC_cutT ((Bool)) (fun (bb : Bool) => bb = true ↔ ¬ okA L n i) (fun u (bb : Bool) => (rn 14 (sc u 14 19 [some (.bool bb)]))) (fun (bb : Bool) => []) (fun (bb : Bool) => []) ?_ ?_
  ·refine JC_region ?_; refine JL_m ?_; refine JL_lss rfl rfl ?_; refine JL_split (fun h15 => ?_) (fun h15 => ?_)
   ·refine JL_m ?_; refine JL_gn ?_; refine JL_gn ?_; refine JL_gn ?_; refine JL_pick_t rfl rfl ?_; refine JL_m ?_; refine JL_gn ?_; refine JL_gn ?_; refine JL_gn ?_; refine JL_guard_un rfl rfl ?_; refine JL_guard_un rfl rfl ?_; refine JL_guard_un rfl rfl ?_; refine JL_guard_un rfl rfl ?_; refine JL_guard_un rfl rfl ?_; refine JL_guard_un rfl rfl ?_; refine JL_guard_un rfl rfl ?_; refine JL_gn ?_; refine JL_pick_t rfl rfl ?_; refine JL_nv 35 ?_; refine JE_midS (true) kr ?_ kr ?_
    · exact ⟨fun _ h => by have := h.1; omega, fun _ => rfl⟩
    · exact subset_app subset_nil ss0
   ·refine JL_m ?_; refine JL_gy ?_; refine JL_m ?_; refine JL_gy ?_; refine JL_m ?_; refine JL_gy ?_; refine JL_geq rfl rfl ?_; refine JL_split (fun h19 => ?_) (fun h19 => ?_)
    ·refine JL_pick_f rfl rfl ?_; refine JL_m ?_; refine JL_gn ?_; refine JL_gn ?_; refine JL_gn ?_; refine JL_guard_un rfl rfl ?_; refine JL_guard_un rfl rfl ?_; refine JL_guard_un rfl rfl ?_; refine JL_guard_un rfl rfl ?_; refine JL_guard_un rfl rfl ?_; refine JL_guard_un rfl rfl ?_; refine JL_guard_un rfl rfl ?_; refine JL_gn ?_; refine JL_pick_t rfl rfl ?_; refine JL_nv 35 ?_; refine JE_midS (true) kr ?_ kr ?_
     · exact ⟨fun _ h => by have := h.2.1; omega, fun _ => rfl⟩
     · exact subset_app subset_nil ss0
    ·refine JL_pick_f rfl rfl ?_; refine JL_m ?_; refine JL_gy ?_; refine JL_m ?_; refine JL_gy ?_; refine JL_gtr rfl rfl ?_; refine JL_split (fun h23 => ?_) (fun h23 => ?_)
     ·refine JL_gy ?_; refine JL_m ?_; refine JL_gy ?_; refine JL_m ?_; refine JL_gy ?_; refine JL_m ?_; refine JL_gy ?_; refine JL_m ?_; refine JL_gy ?_; refine JL_sub_to rfl rfl i6o ?_; refine JL_gy ?_; refine JL_idx (i - 1) sl32 rfl rfl om om rdg lno ?_; refine JL_gy ?_; refine JL_loadE ty3 rfl rdg (i64s_get om) ?_; refine JL_gy ?_; refine JL_leq rfl rfl ?_; refine JL_split (fun h31 => ?_) (fun h31 => ?_)
      ·refine JL_gy ?_; refine JL_pick_t rfl rfl ?_; refine JL_pick_f rfl rfl ?_; refine JL_nv 35 ?_; refine JE_midS (true) kr ?_ kr ?_
       · exact ⟨fun _ h => by have := h.2.2; omega, fun _ => rfl⟩
       · exact subset_app subset_nil ss0
      ·refine JL_gy ?_; refine JL_pick_t rfl rfl ?_; refine JL_pick_f rfl rfl ?_; refine JL_nv 35 ?_; refine JE_midS (false) kr ?_ kr ?_
       · exact ⟨fun e => (by cases e), fun h => absurd ⟨by omega, by omega, .inr om⟩ h⟩
       · exact subset_app subset_nil ss0
     ·refine JL_gy ?_; refine JL_m ?_; refine JL_gn ?_; refine JL_gn ?_; refine JL_gn ?_; refine JL_gn ?_; refine JL_gn ?_; refine JL_gn ?_; refine JL_gn ?_; refine JL_gy ?_; refine JL_pick_f rfl rfl ?_; refine JL_pick_f rfl rfl ?_; refine JL_nv 35 ?_; refine JE_midS (false) kr ?_ kr ?_
      · exact ⟨fun e => (by cases e), fun h => absurd ⟨by omega, by omega, .inl om⟩ h⟩
      · exact subset_app subset_nil ss0
  intro u bb hbb; refine JC_nm 35 [] [_] ?_; refine JC_cond rfl (fun hb => ?_) (fun hb => ?_)
  ·have h33 := hb
   refine JC_sr ?_; refine JL_a ?_; refine JL_dv 35 ?_; refine JC_ret ?_; refine JE_block_ret ?_; refine JE_then_ret ?_; refine JE_nextS_ret ?_; refine JE_block_ret ?_; refine JE_then_ret ?_; refine JE_ret (vs := [_]) [] Tryz.results37 ⟨rfl, rfl⟩ ?_ ?_
   · rw [decide_eq_false (p := ascR L n) (fun h => hbb.1 h33 (h i om))]; exact ⟨rfl, rfl⟩
   · exact all_nil
  ·have h33 := hb
   refine JC_skip ?_; refine JE_block_normal ?_; refine JE_then ?_; refine JC_region ?_; refine JL_add_to rfl rfl i6o ?_; refine JL_m ?_; refine JL_nv 35 ?_; refine JE_nextS (i + 1) kr ?_ ?_ kr ?_
   · exact ⟨by omega, ascR_step hj (Decidable.of_not_not fun h => by have := hbb.2 h; rw [h33] at this; cases this)⟩
   · first | omega | (dsimp only; omega)
   · exact subset_app subset_nil ss0
 ·refine JL_dv 35 ?_; refine JC_seq ?_; refine JC_false rfl ?_; refine JC_exit ?_; refine JE_then_exit ?_; refine JE_nextS_exit ?_; refine JE_block_exit ?_; refine JE_then ?_; refine JC_sr ?_; refine JL_a ?_; refine JL_dv 35 ?_; refine JC_ret ?_; refine JE_ret (vs := [_]) [] Tryz.results37 ⟨rfl, rfl⟩ ?_ ?_
  · rw [decide_eq_true (p := ascR L n) (fun j hj2 => hj j om)]; exact ⟨rfl, rfl⟩
  · exact all_nil

theorem cli_con {ad : Option Addr} {c : Nat} {L : List Int} (hln : L.length ≤ 1000000) :
    ConF Tryz.prog 39 [.slice ad L.length c] [vCells ad (i64s L)]
      (fun v φo => ∃ (ad3 : Option Addr) (c3 : Nat), v = .slice ad3 L.length c3 ∧ (L.length ≤ c3 ∧ c3 ≤ 9223372036854775807) ∧ φo = [vCells ad3 (i64s L)]) := by
 refine ConF_of Tryz.func39 rfl 8 (_ :: rp 7) rfl rfl ?_; intro w0; refine JC_st [] [_] ?_; refine JC_sr ?_; refine JL_a ?_; refine JL_dv 8 ?_; refine JC_seq ?_; refine JC_sr ?_; refine JL_m ?_; refine JL_eqlNil sl32 rfl rfl ?_; refine JL_splitV (fun h4 => ?_) (fun h4 => ?_)
 ·refine JL_fact (fun w s => nilIL s List.mem_cons_self h4) (fun hL => ?_); refine JL_dv 8 ?_; refine JC_true rfl ?_; refine JC_sr ?_; refine JL_a ?_; refine JL_dv 8 ?_; refine JC_ret ?_; refine JE_then_ret ?_; subst hL; refine JE_addNil 3 1 ?_; refine JE_give 0 rfl ?_; refine JE_ret (vs := [_]) [vCells none []] Tryz.results39 ⟨rfl, rfl⟩ ?_ ?_
  · exact ⟨none, 0, rfl, ⟨Nat.le_refl _, by omega⟩, rfl⟩
  · exact (all_cons am all_nil)
 ·refine JL_dv 8 ?_; refine JC_false rfl ?_; refine JC_skip ?_; refine JE_then ?_; refine JC_sr ?_; refine JL_build0 sl32 (fun g5 => ?_); refine JL_m ?_; refine JL_appendIV (L := []) (M := L) 0 sl32 rfl rfl rfl rdg (by first | rfl | assumption | (simp only [lenS]; omega)) om om (fun ad7 cap7 hc7 => ?_); refine JL_a ?_; refine JL_du 8 [osl _ _ _ _ _ _] [_] ?_; refine JC_ret ?_; refine JE_give 0 rfl ?_; refine JE_norm _ [] [_, _] rfl rfl rfl ?_; refine JE_ret (vs := [_]) [vCells ad7 (i64s ([] ++ L))] Tryz.results39 ⟨rfl, rfl⟩ ?_ ?_
  · exact ⟨ad7, cap7, by rw [Nat.zero_add]; rfl, by omega, rfl⟩
  · exact (all_cons am all_nil)

set_option maxHeartbeats 2000000 in
theorem tred_con {X Y : Res} {b n cr cl : Nat} {a : AT} {ar al : Option Addr} {l : List Rw} {L : List Int} (hn : n ≤ 16) (hf : Fit a) (ht : Tn n (er a)) (hl : l.length ≤ 900) (hL : L.length ≤ 900) :
    ConO Tryz.prog 12 [.pointer (some ⟨b, 0, none⟩), .slice al L.length cl] [box b 63 [.int .i64 (n : Nat), ptr a, .slice ar (l).length cr], osl ar (l).length cr 32 1 (rws (l)), X, Y] [vA a, vRws l, vCells al (i64s L)]
      (fun v rout φo => ∃ (e : Int) (a' : AT) (l' : List Rw) (ar' : Option Addr) (cr' : Nat), v = .int .i64 e ∧ rout = [box b 63 [.int .i64 (n : Nat), ptr a', .slice ar' (l').length cr'], osl ar' (l').length cr' 32 1 (rws (l')), X, Y] ∧ φo = [vA a', vRws l'] ∧ Fit a' ∧ l'.length ≤ l.length + 1 ∧ Nxt n (er a) (Rls l) L e (er a') (Rls l')) := by
 refine ConO_of Tryz.func12 rfl 60 (_ :: _ :: rp 58) rfl rfl ?_; intro w0 p0 p1; refine JC_st [box _ _ [_, _, _], osl _ _ _ _ _ _, _, _] [_, _, _, _, _] ?_; refine JC_sr ?_; refine JL_a ?_; refine JL_dv 60 ?_; refine JC_seq ?_; refine JC_sr ?_; refine JL_m ?_; refine JL_eqlPtr pt25 rfl rfl ?_; refine JL_splitV (fun h11 => ?_) (fun h11 => ?_)
 · exact absurd h11 Bool.false_ne_true
 ·refine JL_m ?_; refine JL_gy ?_; refine JL_m ?_; refine JL_gy ?_; refine JL_m ?_; refine JL_gy ?_; refine JL_nilCheck rfl ?_; refine JL_gy ?_; refine JL_fieldAddr fo63_0 rfl ?_; refine JL_gy ?_; refine JL_load 0 ty3 rfl rfl rfl ?_; refine JL_gy ?_; refine JL_callF' (Asks.cons (by first | exact holds_of_mem am | (exact holds_of_own 1 rfl)) Asks.nil) (asc_con om) rfl ca37 ⟨rfl, rfl, rfl⟩ ?_; rintro _ _ ⟨rfl, rfl⟩; refine JL_split (fun h18 => ?_) (fun h18 => ?_)
  ·refine JL_gy ?_; refine JL_not rfl ?_; rw [Bool.not_true]; refine JL_pick_f rfl rfl ?_; refine JL_du 60 [box _ _ [_, _, _], osl _ _ _ _ _ _, _, _] [_, _, _, _, _] ?_; refine JC_false rfl ?_; refine JC_skip ?_; refine JE_then ?_; refine JC_seq ?_; refine JC_sr ?_; refine JL_m ?_; refine JL_len sl32 rfl ?_; refine JL_eql rfl rfl ?_; refine JL_split (fun h23 => ?_) (fun h23 => ?_)
   ·refine JL_dv 60 ?_; refine JC_true rfl ?_; refine JC_sr ?_; refine JL_a ?_; refine JL_dv 60 ?_; refine JC_ret ?_; refine JE_then_ret ?_; refine JE_retO (vs := [_]) [vA a, vRws l] Tryz.results12 ⟨rfl, rfl⟩ ?_ ?_ am am
    · exact ⟨0, a, l, ar, cr, rfl, rfl, rfl, hf, by omega, .of (red_nil h18 (List.eq_nil_of_length_eq_zero om))⟩
    · exact (all_cons am (all_cons am all_nil))
   ·refine JL_dv 60 ?_; refine JC_false rfl ?_; refine JC_skip ?_; refine JE_then ?_; refine JC_sr ?_; refine JL_makeMap (fun b24 => ?_); refine JL_norm _ [box _ _ [_, _, _], osl _ _ _ _ _ _, _, _, mapR _ (mE iv bv (([] : List (Int × Bool))) 0) (List.length (([] : List (Int × Bool))))] [_, _, _, _, _] rfl rfl rfl ?_; refine JL_a ?_; refine JL_du 60 [box _ _ [_, _, _], osl _ _ _ _ _ _, _, _, _] [_, _, _, _, _] ?_; refine JC_seq ?_; refine JC_sr ?_; refine JL_m ?_; refine JL_len sl32 rfl ?_; refine JL_m ?_; refine JL_dv 60 ?_; refine JC_block ?_; refine JC_loopS ((Nat) × (List (Int × Bool))) (fun (i, M) => i ≤ L.length ∧ MapOf M (L.take i)) (fun (i, M) => L.length - i) (fun u (i, M) => (rn 7 (some (u 7) :: rn 19 (some (.int .i64 (i : Nat)) :: sc u 28 6 [])))) (fun (i, M) => (rn 4 [some (mapR b24 (mE iv bv M 0) M.length)])) (fun (i, M) => []) (0, []) kr ?_ kr ?_ ?_
    · exact ⟨Nat.zero_le _, by rw [List.take_zero]; exact MapOf.nil⟩
    · exact subset_nil
    intro u i hC; obtain ⟨i, M⟩ := i; obtain ⟨hi, hM⟩ := hC; refine JC_nm 60 [box _ _ [_, _, _], osl _ _ _ _ _ _, _, _, _] [_, _, _, _, _] ?_; refine JC_sr ?_; refine JL_lss rfl rfl ?_; refine JL_split (fun h28 => ?_) (fun h28 => ?_)
    ·refine JL_dv 60 ?_; refine JC_seq ?_; refine JC_true rfl ?_; refine JC_skip ?_; refine JE_then ?_; refine JC_seq ?_; refine JC_block ?_; refine JC_sr ?_; refine JL_idx i sl32 rfl rfl rfl om rdg lno ?_; refine JL_loadE ty3 rfl rdg (i64s_get om) ?_; refine JL_a ?_; refine JL_dv 60 ?_; refine JC_region ?_; refine JL_m ?_; refine JL_m ?_; refine JL_mapUpdate (a := L.getD i 0) (v := true) 4 mp72 keyInt hM.1 rfl rfl rfl rfl ?_; refine JL_nu 60 [box _ _ [_, _, _], osl _ _ _ _ _ _, _, _, _] [_, _, _, _, _] ?_; refine JE_block_normal ?_; refine JE_then ?_; refine JC_region ?_; refine JL_add_to rfl rfl i6o ?_; refine JL_m ?_; refine JL_nv 60 ?_; refine JE_nextS (i + 1, setM (L.getD i 0) true M) kr ?_ ?_ kr ?_
     · exact ⟨by omega, by rw [takeI_snoc om]; exact hM.set _⟩
     · first | omega | (dsimp only; omega)
     · exact subset_app subset_nil ss0
    ·refine JL_dv 60 ?_; refine JC_seq ?_; refine JC_false rfl ?_; refine JC_exit ?_; refine JE_then_exit ?_; refine JE_nextS_exit ?_; refine JE_block_exit ?_; refine JE_then ?_; refine JC_seq ?_
     have hiL : i = L.length := by omega
     subst hiL; rw [List.take_of_length_le (Nat.le_refl _)] at hM
     have hS := hM.rowS h18
     have hLn : L ≠ [] := fun e => h23 (by rw [e]; rfl)
     have hst := ht.st_ne (nr_lt h18) (fun e => hLn (nr_nil.1 e))
     rw [← hS] at hst; refine JC_region ?_; refine JL_giveMap 4 rfl ?_; refine JL_norm _ [box _ _ [_, _, _], osl _ _ _ _ _ _, _, _] [_, _, _, _, _, _] rfl rfl rfl ?_; refine JL_m ?_; refine JL_m ?_; refine JL_nilCheck rfl ?_; refine JL_fieldAddr fo63_1 rfl ?_; refine JL_load 0 ty58 rfl rfl rfl ?_; refine JL_callA' true (AsksA.cons (holdsA_of_mem am) (AsksA.cons (holdsA_of_mem am) AsksA.nil)) (red_con hM.1 a hf (by rw [ht.lvs_len]; omega) hst) rfl ca38 ⟨rfl, rfl, rfl⟩ ?_; rintro _ _ ⟨p40, b40, o40, rfl, rfl, hd40⟩; refine JL_m ?_; refine JL_extract (v := .pointer p40) rfl rfl ?_; refine JL_extract (v := .bool b40) rfl rfl ?_; refine JL_a ?_; refine JL_a ?_; refine JL_du 60 [box _ _ [_, _, _], osl _ _ _ _ _ _, _, _] [_, _, _, _, _, _, _] ?_; refine JC_seq ?_; refine JC_sr ?_; refine JL_m ?_; refine JL_not rfl ?_; refine JL_dv 60 ?_; refine JC_cond rfl (fun hb => ?_) (fun hb => ?_)
     ·have h44 := hb
      refine JC_sr ?_; refine JL_a ?_; refine JL_dv 60 ?_; refine JC_ret ?_; refine JE_then_ret ?_; refine JE_retO (vs := [_]) [vA a, vRws l] Tryz.results12 ⟨rfl, rfl⟩ ?_ ?_ am am
      · exact ⟨10, a, l, ar, cr, rfl, rfl, rfl, hf, by omega, .of (red_none h18 hLn (by rw [← hS]; exact hd40.no (by cases b40 with | false => rfl | true => exact absurd h44 (by decide))))⟩
      · exact (all_cons am (all_cons am all_nil))
     ·have h44 := hb
      refine JC_skip ?_; refine JE_then ?_; refine JC_seq ?_; obtain rfl : b40 = true := by cases b40 with | true => rfl | false => exact absurd h44 (by decide)
      obtain ⟨a', rfl, rfl, hr40⟩ := hd40.yes rfl; rw [hS] at hr40; refine JC_asGet (f := true) (l := [a']) a' am List.mem_cons_self ?_; refine JC_region ?_; refine JL_m ?_; refine JL_m ?_; refine JL_nilCheck rfl ?_; refine JL_fieldAddr fo63_1 rfl ?_; refine JL_store (vs := [_]) 0 ty58 rfl rfl rfl ao1 rfl bleq ?_; refine JL_du 60 [box _ _ [_, _, _], osl _ _ _ _ _ _, _, _] [_, _, _, _, _, _, _, _] ?_; refine JC_seq ?_; refine JC_drawY mixed 9 8 [0] [([0], 4), ([], 3)] [spV 49 [] _, spV 50 [] _, spV 51 [1] _, spV 52 [2] _, spV 53 [3] _, spV 54 [] _, spC 55 [5] _, spC 56 [6] (fun v φo => ∃ (g : Nat) (ad : Option Addr) (c : Nat), v = .slice (some ⟨g, 0, none⟩) 1 1 ∧ φo = [vCells (some ⟨g, 0, none⟩) (rws [⟨ad, c, L⟩]), vCells ad (i64s L)]), spC 57 [] (fun _ _ => True)] ⟨oM, oM, OblS_V (fun vals ex ψ => (by refine JL_normQ _ (_ :: _ :: _ :: _ :: _ :: _ :: _ :: _ :: ψ) rfl rfl ?_; refine JL_nilCheck rfl ?_; exact vz rfl)), OblS_V (fun vals ex ψ => (by refine JL_normQ _ (_ :: _ :: _ :: _ :: _ :: _ :: _ :: _ :: ψ) rfl rfl ?_; refine JL_fieldAddr fo63_2 rfl ?_; exact vz rfl)), OblS_V (fun vals ex ψ => (by refine JL_normQ _ (_ :: _ :: _ :: _ :: _ :: _ :: _ :: _ :: ψ) rfl rfl ?_; refine JL_load 0 ty22 rfl rfl rfl ?_; exact vz rfl)), oM, OblS_C (fun vals ex ψ => (by refine JL_normQ ⟨60, [(49, _), (50, _), (51, _), (52, _), (53, _), (54, _), (55, _), (56, _), (57, _)], _⟩ (_ :: _ :: _ :: _ :: _ :: _ :: _ :: _ :: ψ) rfl rfl ?_; refine JL_callF' (Asks.cons (by first | exact holds_of_mem am | (exact holds_of_own 1 rfl)) Asks.nil) (cli_con om) rfl ca39 ⟨rfl, rfl⟩ ?_; exact fun v φo hP => JL_nil (JE_stepC φo rfl hP (fun p hp => mapB_l hp) (fun p hp => mapB_r (ss0 p hp))))), OblS_C (fun vals ex ψ => (by
        refine JL_normQ ⟨60, [(49, _), (50, _), (51, _), (52, _), (53, _), (54, _), (55, _), (56, _), (57, _)], _⟩ (_ :: _ :: _ :: _ :: _ :: _ :: _ :: _ :: _ :: ψ) rfl rfl ?_; generalize vals 6 = x55; refine JL_usePost mm0 (fun φo hP => ?_); obtain ⟨ad55, c55, rfl, hc55, rfl⟩ := hP; refine JL_norm _ _ (_ :: _ :: _ :: _ :: _ :: _ :: _ :: _ :: _ :: _ :: ψ) rfl rfl rfl ?_; refine JL_build1 (v := .slice ad55 L.length c55) sl22 rfl rfl (fun g56 => ?_); rw [show [Value.slice ad55 L.length c55] = rws [⟨ad55, c55, L⟩] from rfl]; refine JL_giveLast ?_; exact JL_nil (JE_stepC [vCells (some ⟨g56, 0, none⟩) (rws [⟨ad55, c55, L⟩]), vCells ad55 (i64s L)] rfl ⟨g56, ad55, c55, rfl, rfl⟩ (all_cons am (all_cons am all_nil)) (ssS (ssS ss0))))), trivial, trivial⟩ kr rfl rfl rfl ⟨fun vals bs r => ?_, fun vals bs r => ?_, trivial⟩
      ·refine JL_normL [_] ⟨60, [(49, _), (50, _), (51, _), (52, _), (53, _), (54, _), (55, _), (56, _), (57, _)], _⟩ [box _ _ [_, _, _], osl _ _ _ _ _ _, _, _] [_, _, _, _, _, _, _, _, _, _, _, _] rfl rfl rfl rfl ?_; generalize vals 0 = x49; generalize vals (0 + 1 + 1 + 1 + 1 + 1 + 1) = x55; generalize vals (0 + 1 + 1 + 1 + 1 + 1 + 1 + 1) = x56; generalize vals (0 + 1 + 1 + 1 + 1 + 1 + 1 + 1 + 1) = x57; refine JL_usePost (mmS (mmS mm0)) (fun φo hP => ?_); obtain ⟨g56, adk, ck, rfl, rfl⟩ := hP; refine JL_norm _ [box _ _ [_, _, _], osl _ _ _ _ _ _, _, _] [_, _, _, _, _, _, _, _, _, _, _, _, _, _] rfl rfl rfl ?_; refine JL_append (news := rws [⟨adk, ck, L⟩]) 1 sl22 rfl (by decide) rfl rfl rfl (by rw [rws_length]; rfl) (Reads.view am) (rws_one _) om om (fun ad57 cap57 hc57 => ?_); refine JL_norm _ [box _ _ [_, _, _], osl _ _ _ _ _ _, _, _] [_, _, _, _, _, _, _, _, _, _, _, _, _, _] rfl rfl rfl ?_; rw [rws_app, show l.length + 1 = (l ++ [(⟨adk, ck, L⟩ : Rw)]).length from (by rw [List.length_append]; rfl)]; refine JL_rwSnoc (f := true) (l := l) (ad := adk) (cp := ck) (L := L) am am ?_
       refine JL_nu 60 [box _ _ [_, _, _], osl _ _ _ _ _ _, _, _] [_, _, _, _, _, _, _, _, _, _, _, _, _, _, _] ?_; refine JE_nA 0 ?_; refine JL_m ?_; refine JL_nil ?_; refine JE_nA 9 ?_; refine JL_nilCheck rfl ?_; refine JL_nu 60 [box _ _ [_, _, _], osl _ _ _ _ _ _, _, _] [_, _, _, _, _, _, _, _, _, _, _, _, _, _, _] ?_; refine JE_nA 10 ?_; refine JL_fieldAddr fo63_2 rfl ?_; refine JL_nu 60 [box _ _ [_, _, _], osl _ _ _ _ _ _, _, _] [_, _, _, _, _, _, _, _, _, _, _, _, _, _, _] ?_; refine JE_nA 11 ?_; refine JL_store (vs := [_]) 0 ty22 rfl rfl rfl ao1 rfl bleq ?_; refine JL_nu 60 [box _ _ [_, _, _], osl _ _ _ _ _ _, _, _] [_, _, _, _, _, _, _, _, _, _, _, _, _, _, _] ?_; refine JE_nextA ?_; refine JA_end kr ?_; refine JE_then ?_; refine JC_sr ?_; refine JL_a ?_
       refine JL_du 60 [box _ _ [_, _, _], osl _ _ _ _ _ _, _, _] [_, _, _, _, _, _, _, _, _, _, _, _, _, _, _] ?_; refine JC_ret ?_; refine JE_retO (vs := [_]) [vA a', vRws (l ++ [⟨adk, ck, L⟩])] Tryz.results12 ⟨rfl, rfl⟩ ?_ ?_ am am
       · exact ⟨0, a', l ++ [⟨adk, ck, L⟩], ad57, cap57, rfl, rfl, rfl, hd40.fit a' List.mem_cons_self, by rw [List.length_append]; exact Nat.le_refl _, .of (by rw [show Rls (l ++ [(⟨adk, ck, L⟩ : Rw)]) = Rls l ++ [L] from List.map_append]; exact red_some h18 hLn hr40)⟩
       · exact (all_cons am (all_cons am all_nil))
      ·refine JL_normL [_] ⟨60, [(49, _), (50, _), (51, _), (52, _), (53, _), (54, _), (55, _), (56, _), (57, _)], _⟩ [box _ _ [_, _, _], osl _ _ _ _ _ _, _, _] [_, _, _, _, _, _, _, _, _, _, _] rfl rfl rfl rfl ?_; generalize vals (0 + 1 + 1 + 1 + 1 + 1 + 1) = x55; generalize vals (0 + 1 + 1 + 1 + 1 + 1 + 1 + 1) = x56; generalize vals (0 + 1 + 1 + 1 + 1 + 1 + 1 + 1 + 1) = x57; refine JL_usePost (mmS mm0) (fun φo hP => ?_); obtain ⟨g56, adk, ck, rfl, rfl⟩ := hP; refine JL_norm _ [box _ _ [_, _, _], osl _ _ _ _ _ _, _, _] [_, _, _, _, _, _, _, _, _, _, _, _, _] rfl rfl rfl ?_; refine JL_append (news := rws [⟨adk, ck, L⟩]) 1 sl22 rfl (by decide) rfl rfl rfl (by rw [rws_length]; rfl) (Reads.view am) (rws_one _) om om (fun ad57 cap57 hc57 => ?_); refine JL_norm _ [box _ _ [_, _, _], osl _ _ _ _ _ _, _, _] [_, _, _, _, _, _, _, _, _, _, _, _, _] rfl rfl rfl ?_; rw [rws_app, show l.length + 1 = (l ++ [(⟨adk, ck, L⟩ : Rw)]).length from (by rw [List.length_append]; rfl)]; refine JL_rwSnoc (f := true) (l := l) (ad := adk) (cp := ck) (L := L) am am ?_; refine JL_nu 60 [box _ _ [_, _, _], osl _ _ _ _ _ _, _, _] [_, _, _, _, _, _, _, _, _, _, _, _, _, _] ?_; refine JE_nA 9 ?_; refine JL_nilCheck rfl ?_; refine JL_nu 60 [box _ _ [_, _, _], osl _ _ _ _ _ _, _, _] [_, _, _, _, _, _, _, _, _, _, _, _, _, _] ?_; refine JE_nA 10 ?_; refine JL_fieldAddr fo63_2 rfl ?_; refine JL_nu 60 [box _ _ [_, _, _], osl _ _ _ _ _ _, _, _] [_, _, _, _, _, _, _, _, _, _, _, _, _, _] ?_; refine JE_nA 11 ?_; refine JL_store (vs := [_]) 0 ty22 rfl rfl rfl ao1 rfl bleq ?_; refine JL_nu 60 [box _ _ [_, _, _], osl _ _ _ _ _ _, _, _] [_, _, _, _, _, _, _, _, _, _, _, _, _, _] ?_; refine JE_nextA ?_; refine JA_end kr ?_; refine JE_then ?_; refine JC_sr ?_; refine JL_a ?_; refine JL_du 60 [box _ _ [_, _, _], osl _ _ _ _ _ _, _, _] [_, _, _, _, _, _, _, _, _, _, _, _, _, _] ?_; refine JC_ret ?_; refine JE_retO (vs := [_]) [vA a', vRws (l ++ [⟨adk, ck, L⟩])] Tryz.results12 ⟨rfl, rfl⟩ ?_ ?_ am am
       · exact ⟨0, a', l ++ [⟨adk, ck, L⟩], ad57, cap57, rfl, rfl, rfl, hd40.fit a' List.mem_cons_self, by rw [List.length_append]; exact Nat.le_refl _, .of (by rw [show Rls (l ++ [(⟨adk, ck, L⟩ : Rw)]) = Rls l ++ [L] from List.map_append]; exact red_some h18 hLn hr40)⟩
       · exact (all_cons am (all_cons am all_nil))
  ·refine JL_gy ?_; refine JL_not rfl ?_; rw [Bool.not_false]; refine JL_pick_f rfl rfl ?_; refine JL_du 60 [box _ _ [_, _, _], osl _ _ _ _ _ _, _, _] [_, _, _, _, _] ?_; refine JC_true rfl ?_; refine JC_sr ?_; refine JL_a ?_; refine JL_dv 60 ?_; refine JC_ret ?_; refine JE_then_ret ?_; refine JE_retO (vs := [_]) [vA a, vRws l] Tryz.results12 ⟨rfl, rfl⟩ ?_ ?_ am am
   · exact ⟨1, a, l, ar, cr, rfl, rfl, rfl, hf, by omega, .of (red_bad h18)⟩
   · exact (all_cons am (all_cons am all_nil))

set_option maxHeartbeats 1000000 in
theorem new_con {n : Nat} (h1 : 1 ≤ n) (h16 : n ≤ 16) :
    ConO Tryz.prog 10 [.int .i64 (n : Nat)] [] []
      (fun v rout φo => ∃ (b : Nat) (a : AT), v = .tuple #[.pointer (some ⟨b, 0, none⟩), .int .i64 0] ∧ rout = [box b 63 [.int .i64 (n : Nat), ptr a, .slice none 0 0], osl none 0 0 32 1 ([])] ∧ φo = [vA a, vRws []] ∧ Fit a ∧ er a = newT n) := by
 refine ConO_of Tryz.func10 rfl 28 (_ :: rp 27) rfl rfl ?_; intro w0 p0 p1; refine JC_st [] [_, _] ?_; refine JC_sr ?_; refine JL_a ?_; refine JL_a ?_; refine JL_dv 28 ?_; refine JC_seq ?_; refine JC_sr ?_; refine JL_m ?_; refine JL_lss rfl rfl ?_; refine JL_split (fun h7 => ?_) (fun h7 => ?_)
 · exact absurd h7 om
 ·refine JL_m ?_; refine JL_gy ?_; refine JL_m ?_; refine JL_gy ?_; refine JL_gtr rfl rfl ?_; refine JL_split (fun h10 => ?_) (fun h10 => ?_)
  · exact absurd h10 om
  ·refine JL_pick_f rfl rfl ?_; refine JL_dv 28 ?_; refine JC_false rfl ?_; refine JC_skip ?_; refine JE_then ?_; refine JC_sr ?_; refine JL_a ?_; refine JL_dv 28 ?_; refine JC_seq ?_; refine JC_sr ?_; refine JL_m ?_; refine JL_m ?_; refine JL_dv 28 ?_; refine JC_block ?_; refine JC_asNil ?_; refine JC_addNil 58 1 ?_; refine JC_nw [osl _ _ _ _ _ _] [_, _, _] ?_; refine JC_loopS ((Nat) × (List AT) × (Option Addr) × (Nat)) (fun (i, l, ad3, c3) => i ≤ n ∧ l.map er = (List.range i).map .leaf ∧ (∀ x ∈ l, Fit x) ∧ l.length = i ∧ l.length ≤ c3) (fun (i, l, ad3, c3) => n - i) (fun u (i, l, ad3, c3) => (rn 4 (some (.slice ad3 l.length c3) :: some (u 5) :: rn 7 (some (.int .i64 (i : Nat)) :: sc u 14 9 [])))) (fun (i, l, ad3, c3) => [some (osl ad3 l.length c3 58 1 (ptrs l))]) (fun (i, l, ad3, c3) => [(true, vAs l)]) (0, [], none, 0) kr ?_ kr ?_ ?_
   · exact ⟨Nat.zero_le _, rfl, (fun _ h => by cases h), rfl, Nat.le_refl _⟩
   · exact (subset_cons am subset_nil)
   intro u i hC; obtain ⟨i, l, ad3, c3⟩ := i; obtain ⟨hi, hl, hF, hlen, hc3⟩ := hC; refine JC_nm 28 [osl _ _ _ _ _ _] [_, _, _, _] ?_; refine JC_sr ?_; refine JL_lss rfl rfl ?_; refine JL_split (fun h14 => ?_) (fun h14 => ?_)
   ·refine JL_dv 28 ?_; refine JC_seq ?_; refine JC_true rfl ?_; refine JC_skip ?_; refine JE_then ?_; refine JC_seq ?_; refine JC_block ?_; refine JC_sr ?_; refine JL_m ?_; refine JL_a ?_; refine JL_dv 28 ?_; refine JC_region ?_; refine JL_m ?_; refine JL_m ?_; refine JL_build (cs := [_, _, _]) [(0, [_])] st60 ⟨⟨rfl, _, rfl, rfl⟩, rfl⟩ rfl ?_; refine JL_box rfl rfl (fun b19 => ?_); refine JL_giveBox 1 rfl ?_; refine JL_norm _ [osl _ _ _ _ _ _] [_, _, _, _, _] rfl rfl rfl ?_; refine JL_build1 sl57 rfl rfl (fun g20 => ?_); refine JL_atLeaf (f := true) (b := b19) (n := i) am ?_; refine JL_append (news := ptrs [(.mk b19 i false none 0 [] : AT)]) 0 sl57 rfl (by decide) rfl rfl rfl (by rw [ptrs_length]; rfl) (Reads.own 1 rfl) (ptrs_one _) om om (fun ad21 cap21 hc21 => ?_); refine JL_dropAt 1 ?_; refine JL_norm _ [osl _ _ _ _ _ _] [_, _, _, _, _, _] rfl rfl rfl ?_; rw [ptrs_app, show l.length + 1 = (l ++ [(.mk b19 i false none 0 [] : AT)]).length from (by rw [List.length_append]; rfl)]; rw [show l.length + 1 = (l ++ [(.mk b19 i false none 0 [] : AT)]).length from (by rw [List.length_append]; rfl)] at hc21
    refine JL_asSnoc (f := true) (l := l) (.mk b19 i false none 0 [] : AT) am am ?_; refine JL_a ?_; refine JL_nu 28 [osl _ _ _ _ _ _] [_, _, _, _, _, _, _] ?_; refine JE_block_normal ?_; refine JE_then ?_; refine JC_region ?_; refine JL_add_to rfl rfl i6o ?_; refine JL_m ?_; refine JL_nv 28 ?_; refine JE_nextS (i + 1, l ++ [(.mk b19 i false none 0 [] : AT)], ad21, cap21) kr ?_ ?_ kr ?_
    · exact ⟨by omega, leafs_succ hl rfl, fun x hx => (List.mem_append.1 hx).elim (hF x) (fun h => by rw [List.mem_singleton.1 h]; exact .mk _ _ _ _ _ _ (Nat.le_refl _) (Nat.zero_le _) (fun h => absurd rfl h) (fun h => by cases h) (fun _ h => by cases h)), by rw [List.length_append, hlen]; rfl, hc21.1⟩
    · first | omega | (dsimp only; omega)
    · exact subset_app (subset_cons am subset_nil) (ssS (ssS (ssS (ssS ss0))))
   ·refine JL_dv 28 ?_; refine JC_seq ?_; refine JC_false rfl ?_; refine JC_exit ?_; refine JE_then_exit ?_; refine JE_nextS_exit ?_; refine JE_block_exit ?_; refine JE_then ?_; refine JC_sr ?_; refine JL_m ?_; refine JL_m ?_; refine JL_give 0 rfl ?_; refine JL_norm _ [] [_, _, _, _, _] rfl rfl rfl ?_; refine JL_callA' true (AsksA.cons (holdsA_of_mem am) (AsksA.cons (holdsA_of_mem am) AsksA.nil)) (group_con hc3 om hF) rfl ca35 ⟨rfl, rfl⟩ ?_; rintro _ _ ⟨o25, rfl, rfl, he25, hf25⟩
    have hin : i = n := by omega
    subst hin
    have hne : l.map er ≠ [] := fun e => by rw [List.map_eq_nil_iff] at e; rw [e] at hlen; simp at hlen; omega
    obtain ⟨a, rfl⟩ := single_of he25 (grp_one hne); refine JL_asGet (f := true) (l := [a]) a am List.mem_cons_self ?_; refine JL_build (cs := [_, _, _]) [(0, [_]), (1, [_])] st63 ⟨⟨rfl, _, rfl, rfl⟩, ⟨rfl, _, rfl, rfl⟩, rfl⟩ rfl ?_; refine JL_box rfl rfl (fun b27 => ?_); refine JL_a ?_; refine JL_a ?_; refine JL_du 28 [box _ _ [_, _, _]] [_, _, _, _, _, _, _] ?_; refine JC_ret ?_; refine JE_rwNil ?_; refine JE_addNil 32 1 ?_; refine JE_retO (vs := [_, _]) [vA a, vRws []] Tryz.results10 ⟨rfl, rfl, rfl⟩ ?_ ?_ am am
    · exact ⟨b27, a, rfl, rfl, rfl, hf25 a List.mem_cons_self, by rw [hl] at he25; unfold newT; rw [← he25]; rfl⟩
    · exact (all_cons am (all_cons am all_nil))

theorem newX_con {n : Int} (h : n < 1 ∨ 16 < n) :
    ConF Tryz.prog 10 [.int .i64 n] []
      (fun v φo => v = .tuple #[.pointer none, .int .i64 2] ∧ φo = []) := by
 refine ConF_of Tryz.func10 rfl 28 (_ :: rp 27) rfl rfl ?_; intro w0; refine JC_st [] [] ?_; refine JC_sr ?_; refine JL_a ?_; refine JL_a ?_; refine JL_dv 28 ?_; refine JC_seq ?_; refine JC_sr ?_; refine JL_m ?_; refine JL_lss rfl rfl ?_; refine JL_split (fun h7 => ?_) (fun h7 => ?_)
 ·refine JL_m ?_; refine JL_gn ?_; refine JL_gn ?_; refine JL_pick_t rfl rfl ?_; refine JL_dv 28 ?_; refine JC_true rfl ?_; refine JC_sr ?_; refine JL_a ?_; refine JL_a ?_; refine JL_dv 28 ?_; refine JC_ret ?_; refine JE_then_ret ?_; refine JE_ret (vs := [_, _]) [] Tryz.results10 ⟨rfl, rfl, rfl⟩ ?_ ?_
  · exact ⟨rfl, rfl⟩
  · exact all_nil
 ·refine JL_m ?_; refine JL_gy ?_; refine JL_m ?_; refine JL_gy ?_; refine JL_gtr rfl rfl ?_; refine JL_split (fun h10 => ?_) (fun h10 => ?_)
  ·refine JL_pick_f rfl rfl ?_; refine JL_dv 28 ?_; refine JC_true rfl ?_; refine JC_sr ?_; refine JL_a ?_; refine JL_a ?_; refine JL_dv 28 ?_; refine JC_ret ?_; refine JE_then_ret ?_; refine JE_ret (vs := [_, _]) [] Tryz.results10 ⟨rfl, rfl, rfl⟩ ?_ ?_
   · exact ⟨rfl, rfl⟩
   · exact all_nil
  · exact absurd h om

end Go.Fw.K
