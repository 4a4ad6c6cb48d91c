/- Walks through functions of the given program: each meets its contract. (Printed by a program of this repo.) -/
import Derived.Test.YtjkbamfcoiikmaaGreatDoorNA
import Derived.Test.YtjkbamfcoiikmaaGreatDoorRfE
import Derived.Test.YtjkbamfcoiikmaaGreatDoorProg
namespace Go.Fw.NC
open Go Go.RowKit Go.Proofs Go.Nat9 Go.Fw
attribute [local irreducible] JC JL JE
theorem ca102 : callable Tryz.prog 102 = true := by kernel_rfl
theorem ca103 : callable Tryz.prog 103 = true := by kernel_rfl
theorem ca34 : callable Tryz.prog 34 = true := by kernel_rfl
theorem ca36 : callable Tryz.prog 36 = true := by kernel_rfl
theorem ca40 : callable Tryz.prog 40 = true := by kernel_rfl
theorem ca67 : callable Tryz.prog 67 = true := by kernel_rfl
theorem ca68 : callable Tryz.prog 68 = true := by kernel_rfl
theorem ca69 : callable Tryz.prog 69 = true := by kernel_rfl
theorem ca70 : callable Tryz.prog 70 = true := by kernel_rfl
theorem ca78 : callable Tryz.prog 78 = true := by kernel_rfl
theorem fo66_0 : fOf Tryz.prog 66 0 = some 0 := by kernel_rfl
theorem fo66_2 : fOf Tryz.prog 66 2 = some 2 := by kernel_rfl
theorem fo69_0 : fOf Tryz.prog 69 0 = some 0 := by kernel_rfl
theorem fo69_1 : fOf Tryz.prog 69 1 = some 1 := by kernel_rfl
theorem mixed : Tryz.prog.follows .mixedOrders = true := by kernel_rfl
theorem pt29 : Tryz.prog.underlying 29 = some (.pointer (Tryz.prog.pointee 29)) := by kernel_rfl
theorem sl32 : slOf Tryz.prog 32 = some (3, 1, 8, [.int .i64 0]) := by kernel_rfl
theorem sl64 : slOf Tryz.prog 64 = some (66, 3, 40, [.int .i64 0, .int .i64 0, .slice none 0 0]) := by kernel_rfl
theorem st66 : stOf Tryz.prog 66 = some ([(0, 1), (1, 1), (2, 1)], [.int .i64 0, .int .i64 0, .slice none 0 0]) := by kernel_rfl
theorem st69 : stOf Tryz.prog 69 = some ([(0, 1), (1, 3)], [.int .i64 0, .int .i64 0, .int .i64 0, .slice none 0 0]) := by kernel_rfl
theorem ty3 : tyOf Tryz.prog 3 = some (false, 1) := by kernel_rfl
theorem ty64 : tyOf Tryz.prog 64 = some (false, 1) := by kernel_rfl
theorem ty66 : tyOf Tryz.prog 66 = some (true, 3) := by kernel_rfl
theorem z66 : zeroOf Tryz.prog 66 = some [.int .i64 0, .int .i64 0, .slice none 0 0] := by kernel_rfl
end Go.Fw.NC
namespace Go.Fw.K
open Go Go.RowKit Go.Proofs Go.Nat9 Go.Fw Go.Fw.NC
attribute [local irreducible] JC JL JE

open Go.Fw.Pq
set_option maxHeartbeats 2000000 in
set_option maxRecDepth 20000 in
theorem rbtw_con {adr : Option Addr} {cr : Nat} {R : List Int} (hR : R.length ≤ 1000) (t : AT) (hf : Fit t) (hL : (lvs (er t)).length ≤ 1000)  (h0 : some_ (inI R) (t.kids.map er) ≠ 0) (hk0 : t.kids.length ≠ 0) :
    ConA Tryz.prog 70 [nval t, .slice adr R.length cr] [vCells adr (i64s R), vN t]
      (fun v φo => ∃ (t' : AT) (b3 : Bool), v = .tuple #[nval t', .bool b3] ∧ φo = [vN t'] ∧ RN t' b3 (wth (inI R) (t.kids.map er))) := by
 refine ConA_of Tryz.func70 rfl 81 (_ :: _ :: rp 79) rfl rfl ?_; intro w0; refine JC_st [] [_, _] ?_; refine JC_sr ?_; refine JL_box rfl rfl (fun b2 => ?_); refine JL_alloc z66 (fun b4 => ?_); refine JL_a ?_; refine JL_du 81 [box _ _ [_, _, _], box _ _ [_, _, _]] [_, _] ?_; refine JC_seq ?_; refine JC_nOpen (f := true) (t := t) am ?_; refine JC_region ?_; refine JL_a ?_; refine JL_a ?_; refine JL_dv 81 ?_; refine JC_seq ?_; refine JC_seq ?_
 have hN := nA_kn hk0
 have hln := fitL hf
 have hcp := fitC hf
 refine JC_region ?_; refine JL_a ?_; refine JL_dv 81 ?_; refine JC_block ?_; refine JC_loopS ((Nat) × (Int) × (Int)) (fun (i, a, b) => i ≤ t.kids.length ∧ FI (inI R) t.kids i a ∧ LI (inI R) t.kids i b) (fun (i, a, b) => t.kids.length - i) (fun u (i, a, b) => (rn 6 (some (.int .i64 a) :: some (.int .i64 b) :: some (.int .i64 (i : Nat)) :: rn 4 (sc u 13 19 [])))) (fun (i, a, b) => []) (fun (i, a, b) => []) (0, -1, -1) kr ?_ kr ?_ ?_
 · exact ⟨Nat.zero_le _, FI.zero _, LI.zero _⟩
 · exact subset_nil
 intro u i hC; obtain ⟨i, a, b⟩ := i; obtain ⟨hi, hA, hB⟩ := hC; refine JC_nm 81 [box _ _ [_, _, _], box _ _ [_, _, _]] [_, _, _, _] ?_; refine JC_seq ?_; refine JC_sr ?_; refine JL_m ?_; refine JL_fieldAddr fo66_2 rfl ?_; refine JL_load 0 ty64 rfl rfl rfl ?_; refine JL_len sl64 rfl ?_; refine JL_lss rfl rfl ?_; refine JL_split (fun h17 => ?_) (fun h17 => ?_)
 ·refine JL_dv 81 ?_; refine JC_true rfl ?_; refine JC_skip ?_; refine JE_then ?_; refine JC_seq ?_; refine JC_block ?_; refine JC_seq ?_; refine JC_sr ?_; refine JL_fieldAddr fo66_2 rfl ?_; refine JL_load 0 ty64 rfl rfl rfl ?_; refine JL_m ?_; refine JL_indexAddr i sl64 rfl rfl rfl om rdg (by rw [ncL_len]; omega) ?_; refine JL_loadEA (vs := [_, _, _]) ty66 zp rfl rdg (ncL_getA om) ?_; refine JL_m ?_; refine JL_callF' (Asks.cons (holds_of_mem am) (Asks.cons (holds_of_mem am) Asks.nil)) (conN1 (rstate_con hR (t.kids.getD i default) (fitK hf _ (at_mem (l := t.kids) (i := i) om)) (by have := nA_mem (at_mem (l := t.kids) (i := i) om); omega)) (at_mem (l := t.kids) (i := i) om)) rfl ca67 ⟨rfl, rfl, rfl⟩ ?_; rintro _ _ ⟨rfl, rfl⟩; refine JL_eql rfl rfl ?_; refine JL_split (fun h27 => ?_) (fun h27 => ?_)
  ·refine JL_du 81 [box _ _ [_, _, _], box _ _ [_, _, _]] [_, _, _, _] ?_; refine JC_true rfl ?_; refine JC_exit ?_; refine JE_then_exit ?_; refine JE_block_exit ?_; refine JE_then ?_; refine JC_region ?_; refine JL_m ?_; refine JL_add_to rfl rfl i6o ?_; refine JL_a ?_; refine JL_nv 81 ?_; refine JE_nextS (i + 1, a, b) kr ?_ ?_ kr ?_
   · exact ⟨by omega, hA.same (.inl om), hB.same om om⟩
   · first | omega | (dsimp only; omega)
   · exact subset_app subset_nil ss0
  ·refine JL_du 81 [box _ _ [_, _, _], box _ _ [_, _, _]] [_, _, _, _] ?_; refine JC_false rfl ?_; refine JC_skip ?_; refine JE_then ?_; refine JC_seq ?_; refine JC_sr ?_; refine JL_m ?_; refine JL_lss rfl rfl ?_; refine JL_split (fun h29 => ?_) (fun h29 => ?_)
   ·refine JL_dv 81 ?_; refine JC_true rfl ?_; refine JC_region ?_; refine JL_m ?_; refine JL_a ?_; refine JL_dv 81 ?_; refine JC_region ?_; refine JL_m ?_; refine JL_a ?_; refine JL_nv 81 ?_; refine JE_block_normal ?_; refine JE_then ?_; refine JC_region ?_; refine JL_m ?_; refine JL_add_to rfl rfl i6o ?_; refine JL_a ?_; refine JL_nv 81 ?_; refine JE_nextS (i + 1, (i : Nat), (i : Nat)) kr ?_ ?_ kr ?_
    · exact ⟨by omega, hA.here om om, LI.here om⟩
    · first | omega | (dsimp only; omega)
    · exact subset_app subset_nil ss0
   ·refine JL_dv 81 ?_; refine JC_false rfl ?_; refine JC_skip ?_; refine JE_then ?_; refine JC_region ?_; refine JL_m ?_; refine JL_a ?_; refine JL_nv 81 ?_; refine JE_block_normal ?_; refine JE_then ?_; refine JC_region ?_; refine JL_m ?_; refine JL_add_to rfl rfl i6o ?_; refine JL_a ?_; refine JL_nv 81 ?_; refine JE_nextS (i + 1, a, (i : Nat)) kr ?_ ?_ kr ?_
    · exact ⟨by omega, hA.same (.inr om), LI.here om⟩
    · first | omega | (dsimp only; omega)
    · exact subset_app subset_nil ss0
 ·refine JL_dv 81 ?_; refine JC_false rfl ?_; refine JC_exit ?_; refine JE_then_exit ?_; refine JE_nextS_exit ?_; refine JE_block_exit ?_; refine JE_then ?_; refine JC_seq ?_; obtain rfl : i = t.kids.length := by omega
  obtain ⟨hb, hlt, hlk⟩ := hB.last h0
  have ha := hA.done h0
  generalize hfe : (Pq.firstI (inI R) (t.kids.map er)) = f at ha; generalize hle : (lastI (inI R) (t.kids.map er)) = l at hb; subst ha; subst hb
  have hfz := hA.fz
  have hlz := hB.lz
  rw [hle] at hlt; refine JC_region ?_; refine JL_a ?_; refine JL_dv 81 ?_; refine JC_seq ?_; refine JC_sr ?_; refine JL_a ?_; refine JL_dv 81 ?_; refine JC_block ?_; refine JC_nNil ?_; refine JC_addNil 66 3 ?_; refine JC_nw [box _ _ [_, _, _], box _ _ [_, _, _], osl _ _ _ _ _ _] [_, _, _, _, _] ?_; refine JC_loopS ((Nat) × (List AT) × (Option Addr) × (Nat)) (fun (i, o, ad3, c3) => i ≤ t.kids.length ∧ WQ (inI R) t.kids f l i o ∧ (o.length ≤ c3 ∧ c3 ≤ 9223372036854775807)) (fun (i, o, ad3, c3) => t.kids.length - i) (fun u (i, o, ad3, c3) => (rn 5 (some (u 5) :: rn 3 (some (.slice ad3 o.length c3) :: some (.int .i64 (i : Nat)) :: sc u 11 2 (rn 19 (sc u 32 47 [])))))) (fun (i, o, ad3, c3) => (rn 2 [some (osl ad3 o.length c3 66 3 (ncL o))])) (fun (i, o, ad3, c3) => [(true, vNs o)]) (0, [], none, 0) kr ?_ kr ?_ ?_
  · exact ⟨Nat.zero_le _, WQ.zero _ _ _, Nat.le_refl _, by omega⟩
  · exact (subset_cons am subset_nil)
  intro u i hC; obtain ⟨i, o, ad3, c3⟩ := i; obtain ⟨hi, hQ, hc3⟩ := hC; refine JC_nm 81 [box _ _ [_, _, _], box _ _ [_, _, _], osl _ _ _ _ _ _] [_, _, _, _, _, _] ?_
  have hoL := nA_ge hQ.fit
  have hbi := nA_le t.kids i
  have hoN := hQ.len
  refine JC_seq ?_; refine JC_sr ?_; refine JL_m ?_; refine JL_fieldAddr fo66_2 rfl ?_; refine JL_load 0 ty64 rfl rfl rfl ?_; refine JL_len sl64 rfl ?_; refine JL_lss rfl rfl ?_; refine JL_split (fun h36 => ?_) (fun h36 => ?_)
  ·refine JL_dv 81 ?_; refine JC_true rfl ?_; refine JC_skip ?_; refine JE_then ?_; refine JC_seq ?_; refine JC_block ?_; refine JC_seq ?_; refine JC_seq ?_
   rcases (by omega : ¬ ((i : Nat) : Int) > ((f : Nat) : Int) ∨ (((i : Nat) : Int) > ((f : Nat) : Int) ∧ ¬ ((i : Nat) : Int) < ((l : Nat) : Int)) ∨ (((i : Nat) : Int) > ((f : Nat) : Int) ∧ ((i : Nat) : Int) < ((l : Nat) : Int) ∧ ((st (inI R) (er (t.kids.getD i default)) : Nat) : Int) ≠ 2) ∨ (((i : Nat) : Int) > ((f : Nat) : Int) ∧ ((i : Nat) : Int) < ((l : Nat) : Int) ∧ ¬ ((st (inI R) (er (t.kids.getD i default)) : Nat) : Int) ≠ 2)) with hX | ⟨hX, hY⟩ | ⟨hX, hY, hZ⟩ | ⟨hX, hY, hZ⟩
   ·have hnm : ¬ (f < i ∧ i < l ∧ st (inI R) (er (t.kids.getD i default)) ≠ 2) := by omega
    refine JC_region ?_; refine JL_m ?_; refine JL_m ?_; refine JL_gtr rfl rfl ?_; rw [decide_eq_false (p := ((i : Nat) : Int) > ((f : Nat) : Int)) om]; refine JL_m ?_; refine JL_gn ?_; refine JL_gn ?_; refine JL_gn ?_; refine JL_pick_f rfl rfl ?_; refine JL_m ?_; refine JL_gn ?_; refine JL_gn ?_; refine JL_gn ?_; refine JL_gn ?_; refine JL_gn ?_; refine JL_gn ?_; refine JL_gn ?_; refine JL_gn ?_; refine JL_pick_f rfl rfl ?_; refine JL_dv 81 ?_; refine JC_false rfl ?_; refine JC_skip ?_; refine JE_then ?_; refine JC_sr ?_; refine JL_fieldAddr fo66_2 rfl ?_; refine JL_load 0 ty64 rfl rfl rfl ?_; refine JL_m ?_; refine JL_indexAddr i sl64 rfl rfl rfl om rdg (by rw [ncL_len]; omega) ?_; refine JL_loadEA (vs := [_, _, _]) ty66 zp rfl rdg (ncL_getA om) ?_; refine JL_m ?_
    refine JL_callA' true (AsksA.cons (holdsA_of_mem am) (AsksA.cons (holdsA_of_mem am) AsksA.nil)) (conNA (rside_con hR (t.kids.getD i default) (fitK hf _ (at_mem (l := t.kids) (i := i) om)) (by have := nA_mem (at_mem (l := t.kids) (i := i) om); omega)) (at_mem (l := t.kids) (i := i) om)) rfl ca102 ⟨rfl, rfl, rfl⟩ ?_; rintro _ _ ⟨o65, ad65, c65, b65, rfl, hc65, rfl, hf65, hl65⟩
    have hmid := mid_lin hnm (fun h => hfz i h) (fun h => hlz i h om)
    refine JL_m ?_; refine JL_extract (v := .slice ad65 o65.length c65) rfl rfl ?_; refine JL_extract (v := .bool b65) rfl rfl ?_; refine JL_a ?_; refine JL_a ?_; refine JL_du 81 [box _ _ [_, _, _], box _ _ [_, _, _], osl _ _ _ _ _ _] [_, _, _, _, _, _, _, _] ?_; refine JC_seq ?_; refine JC_sr ?_; refine JL_m ?_; refine JL_not rfl ?_; refine JL_dv 81 ?_; refine JC_cond rfl (fun hb => ?_) (fun hb => ?_)
    ·have h69 := hb
     refine JC_sr ?_; refine JL_build (cs := [_, _, _]) [] st66 rfl rfl ?_; refine JL_store (vs := [_, _, _]) 1 ty66 rfl rfl rfl ao3 rfl bleq ?_; refine JL_a ?_; refine JL_du 81 [box _ _ [_, _, _], box _ _ [_, _, _], osl _ _ _ _ _ _] [_, _, _, _, _, _, _, _] ?_; refine JC_ret ?_; refine JE_then_ret ?_; refine JE_block_ret ?_; refine JE_then_ret ?_; refine JE_nextS_ret ?_; refine JE_block_ret ?_; refine JE_then_ret ?_; refine JE_nLeaf (n := 0) ?_; refine JE_ret (vs := [_, _]) [vN (nw 0 false none 0 [])] Tryz.results70 ⟨RV.cell (vs := [_, _, _]) 1 ty66 rfl rfl ⟨rfl, rfl, rfl, trivial⟩, rfl, rfl⟩ ?_ ?_
     · exact ⟨nw 0 false none 0 [], false, rfl, rfl, .not (wth_no (by rw [hfe, hle]; exact hQ.no2 om (by rw [hmid, hl65, show b65 = false from by cases b65 with | false => rfl | true => exact absurd h69 (by decide)]; rfl)))⟩
     · exact (all_cons am all_nil)
    ·have h69 := hb
     refine JC_skip ?_; refine JE_then ?_; refine JC_seq ?_; refine JC_seq ?_; obtain rfl : b65 = true := by cases b65 with | true => rfl | false => exact absurd h69 (by decide)
     replace hl65 : lin (inI R) (er (t.kids.getD i default)) = some (o65.map er) := hl65
     have hml := hmid.trans hl65
     have hpN : nA o65 = (lvs (er (t.kids.getD i default))).length := lin_nl (fitK hf _ (at_mem (l := t.kids) (i := i) om)).ok hl65
     have hoL2 := nA_ge hf65
     have hkm := nA_mem (at_mem (l := t.kids) (i := i) om)
     refine JC_region ?_; refine JL_m ?_; refine JL_m ?_; refine JL_eql rfl rfl ?_; refine JL_dv 81 ?_; refine JC_cutT ((List AT) × (Option Addr) × (Nat)) (fun (p', adq, cq) => p' = if i = l then o65.reverse else o65) (fun u (p', adq, cq) => (rn 11 (some (.slice adq p'.length cq) :: rn 62 (sc u 74 2 [])))) (fun (p', adq, cq) => []) (fun (p', adq, cq) => [(true, vCells adq (ncL p'))]) ?_ ?_
     ·refine JC_cond rfl (fun hb => ?_) (fun hb => ?_)
      ·have h73 := of_decide_eq_true hb
       refine JC_region ?_; refine JL_m ?_; refine JL_callA' true (AsksA.cons (holdsA_of_mem am) AsksA.nil) (rturn_con (ks := o65) om) rfl ca78 ⟨rfl, rfl⟩ ?_; rintro _ _ ⟨ad75, c75, rfl, hc75, rfl⟩; refine JL_a ?_; refine JL_nu 81 [box _ _ [_, _, _], box _ _ [_, _, _], osl _ _ _ _ _ _] [_, _, _, _, _, _, _, _, _] ?_; refine JE_midS (o65.reverse, ad75, c75) kr ?_ kr ?_
       · exact (if_pos om).symm
       · exact subset_app (subset_cons am subset_nil) (ssS ss0)
      ·have h73 := of_decide_eq_false hb
       refine JC_skip ?_; refine JE_midS (o65, ad65, c65) kr ?_ kr ?_
       · exact (if_neg om).symm
       · exact subset_app (subset_cons am subset_nil) ss0
     intro u i hp2; obtain ⟨p', adq, cq⟩ := i; refine JC_nm 81 [box _ _ [_, _, _], box _ _ [_, _, _], osl _ _ _ _ _ _] [_, _, _, _, _, _, _, _, _] ?_; refine JC_region ?_; refine JL_m ?_; refine JL_m ?_
     have hpm : ∀ x ∈ p', x ∈ o65 := by subst hp2; split <;> simp
     have hpl' : p'.length = o65.length := by subst hp2; split <;> simp
     refine JL_append (news := ncL p') 2 sl64 rfl (by decide) rfl rfl rfl (by rw [ncL_len]) (Reads.view am) (ncL_one _) om om (fun ad78 cap78 hc78 => ?_); refine JL_norm _ [box _ _ [_, _, _], box _ _ [_, _, _], osl _ _ _ _ _ _] [_, _, _, _, _, _, _, _, _] rfl rfl rfl ?_; rw [ncL_app, ← List.length_append]; rw [← List.length_append] at hc78; refine JL_nSub (f := true) (l := o65) (m := p') am hpm ?_; refine JL_nApp (f := true) (l := o) (m := p') am am ?_; refine JL_a ?_; refine JL_nu 81 [box _ _ [_, _, _], box _ _ [_, _, _], osl _ _ _ _ _ _] [_, _, _, _, _, _, _, _, _, _, _] ?_; refine JE_block_normal ?_; refine JE_then ?_; refine JC_region ?_; refine JL_m ?_; refine JL_add_to rfl rfl i6o ?_; refine JL_a ?_; refine JL_nv 81 ?_; refine JE_nextS (i + 1, o ++ p', ad78, cap78) kr ?_ ?_ kr ?_
     · exact ⟨by omega, hQ.step om (fitK hf _ (at_mem (l := t.kids) (i := i) om)).ok hnm hml hf65 hp2, hc78⟩
     · first | omega | (dsimp only; omega)
     · exact subset_app (subset_cons am subset_nil) (ssS (ssS (ssS (ssS (ssS (ssS ss0))))))
   ·have hnm : ¬ (f < i ∧ i < l ∧ st (inI R) (er (t.kids.getD i default)) ≠ 2) := by omega
    refine JC_region ?_; refine JL_m ?_; refine JL_m ?_; refine JL_gtr rfl rfl ?_; rw [decide_eq_true (p := ((i : Nat) : Int) > ((f : Nat) : Int)) om]; refine JL_m ?_; refine JL_gy ?_; refine JL_m ?_; refine JL_gy ?_; refine JL_m ?_; refine JL_gy ?_; refine JL_lss rfl rfl ?_; rw [decide_eq_false (p := ((i : Nat) : Int) < ((l : Nat) : Int)) om]; refine JL_pick_t rfl rfl ?_; refine JL_m ?_; refine JL_gn ?_; refine JL_gn ?_; refine JL_gn ?_; refine JL_gn ?_; refine JL_gn ?_; refine JL_gn ?_; refine JL_gn ?_; refine JL_gn ?_; refine JL_pick_f rfl rfl ?_; refine JL_dv 81 ?_; refine JC_false rfl ?_; refine JC_skip ?_; refine JE_then ?_; refine JC_sr ?_; refine JL_fieldAddr fo66_2 rfl ?_; refine JL_load 0 ty64 rfl rfl rfl ?_; refine JL_m ?_; refine JL_indexAddr i sl64 rfl rfl rfl om rdg (by rw [ncL_len]; omega) ?_; refine JL_loadEA (vs := [_, _, _]) ty66 zp rfl rdg (ncL_getA om) ?_; refine JL_m ?_
    refine JL_callA' true (AsksA.cons (holdsA_of_mem am) (AsksA.cons (holdsA_of_mem am) AsksA.nil)) (conNA (rside_con hR (t.kids.getD i default) (fitK hf _ (at_mem (l := t.kids) (i := i) om)) (by have := nA_mem (at_mem (l := t.kids) (i := i) om); omega)) (at_mem (l := t.kids) (i := i) om)) rfl ca102 ⟨rfl, rfl, rfl⟩ ?_; rintro _ _ ⟨o65, ad65, c65, b65, rfl, hc65, rfl, hf65, hl65⟩
    have hmid := mid_lin hnm (fun h => hfz i h) (fun h => hlz i h om)
    refine JL_m ?_; refine JL_extract (v := .slice ad65 o65.length c65) rfl rfl ?_; refine JL_extract (v := .bool b65) rfl rfl ?_; refine JL_a ?_; refine JL_a ?_; refine JL_du 81 [box _ _ [_, _, _], box _ _ [_, _, _], osl _ _ _ _ _ _] [_, _, _, _, _, _, _, _] ?_; refine JC_seq ?_; refine JC_sr ?_; refine JL_m ?_; refine JL_not rfl ?_; refine JL_dv 81 ?_; refine JC_cond rfl (fun hb => ?_) (fun hb => ?_)
    ·have h69 := hb
     refine JC_sr ?_; refine JL_build (cs := [_, _, _]) [] st66 rfl rfl ?_; refine JL_store (vs := [_, _, _]) 1 ty66 rfl rfl rfl ao3 rfl bleq ?_; refine JL_a ?_; refine JL_du 81 [box _ _ [_, _, _], box _ _ [_, _, _], osl _ _ _ _ _ _] [_, _, _, _, _, _, _, _] ?_; refine JC_ret ?_; refine JE_then_ret ?_; refine JE_block_ret ?_; refine JE_then_ret ?_; refine JE_nextS_ret ?_; refine JE_block_ret ?_; refine JE_then_ret ?_; refine JE_nLeaf (n := 0) ?_; refine JE_ret (vs := [_, _]) [vN (nw 0 false none 0 [])] Tryz.results70 ⟨RV.cell (vs := [_, _, _]) 1 ty66 rfl rfl ⟨rfl, rfl, rfl, trivial⟩, rfl, rfl⟩ ?_ ?_
     · exact ⟨nw 0 false none 0 [], false, rfl, rfl, .not (wth_no (by rw [hfe, hle]; exact hQ.no2 om (by rw [hmid, hl65, show b65 = false from by cases b65 with | false => rfl | true => exact absurd h69 (by decide)]; rfl)))⟩
     · exact (all_cons am all_nil)
    ·have h69 := hb
     refine JC_skip ?_; refine JE_then ?_; refine JC_seq ?_; refine JC_seq ?_; obtain rfl : b65 = true := by cases b65 with | true => rfl | false => exact absurd h69 (by decide)
     replace hl65 : lin (inI R) (er (t.kids.getD i default)) = some (o65.map er) := hl65
     have hml := hmid.trans hl65
     have hpN : nA o65 = (lvs (er (t.kids.getD i default))).length := lin_nl (fitK hf _ (at_mem (l := t.kids) (i := i) om)).ok hl65
     have hoL2 := nA_ge hf65
     have hkm := nA_mem (at_mem (l := t.kids) (i := i) om)
     refine JC_region ?_; refine JL_m ?_; refine JL_m ?_; refine JL_eql rfl rfl ?_; refine JL_dv 81 ?_; refine JC_cutT ((List AT) × (Option Addr) × (Nat)) (fun (p', adq, cq) => p' = if i = l then o65.reverse else o65) (fun u (p', adq, cq) => (rn 11 (some (.slice adq p'.length cq) :: rn 62 (sc u 74 2 [])))) (fun (p', adq, cq) => []) (fun (p', adq, cq) => [(true, vCells adq (ncL p'))]) ?_ ?_
     ·refine JC_cond rfl (fun hb => ?_) (fun hb => ?_)
      ·have h73 := of_decide_eq_true hb
       refine JC_region ?_; refine JL_m ?_; refine JL_callA' true (AsksA.cons (holdsA_of_mem am) AsksA.nil) (rturn_con (ks := o65) om) rfl ca78 ⟨rfl, rfl⟩ ?_; rintro _ _ ⟨ad75, c75, rfl, hc75, rfl⟩; refine JL_a ?_; refine JL_nu 81 [box _ _ [_, _, _], box _ _ [_, _, _], osl _ _ _ _ _ _] [_, _, _, _, _, _, _, _, _] ?_; refine JE_midS (o65.reverse, ad75, c75) kr ?_ kr ?_
       · exact (if_pos om).symm
       · exact subset_app (subset_cons am subset_nil) (ssS ss0)
      ·have h73 := of_decide_eq_false hb
       refine JC_skip ?_; refine JE_midS (o65, ad65, c65) kr ?_ kr ?_
       · exact (if_neg om).symm
       · exact subset_app (subset_cons am subset_nil) ss0
     intro u i hp2; obtain ⟨p', adq, cq⟩ := i; refine JC_nm 81 [box _ _ [_, _, _], box _ _ [_, _, _], osl _ _ _ _ _ _] [_, _, _, _, _, _, _, _, _] ?_; refine JC_region ?_; refine JL_m ?_; refine JL_m ?_
     have hpm : ∀ x ∈ p', x ∈ o65 := by subst hp2; split <;> simp
     have hpl' : p'.length = o65.length := by subst hp2; split <;> simp
     refine JL_append (news := ncL p') 2 sl64 rfl (by decide) rfl rfl rfl (by rw [ncL_len]) (Reads.view am) (ncL_one _) om om (fun ad78 cap78 hc78 => ?_); refine JL_norm _ [box _ _ [_, _, _], box _ _ [_, _, _], osl _ _ _ _ _ _] [_, _, _, _, _, _, _, _, _] rfl rfl rfl ?_; rw [ncL_app, ← List.length_append]; rw [← List.length_append] at hc78; refine JL_nSub (f := true) (l := o65) (m := p') am hpm ?_; refine JL_nApp (f := true) (l := o) (m := p') am am ?_; refine JL_a ?_; refine JL_nu 81 [box _ _ [_, _, _], box _ _ [_, _, _], osl _ _ _ _ _ _] [_, _, _, _, _, _, _, _, _, _, _] ?_; refine JE_block_normal ?_; refine JE_then ?_; refine JC_region ?_; refine JL_m ?_; refine JL_add_to rfl rfl i6o ?_; refine JL_a ?_; refine JL_nv 81 ?_; refine JE_nextS (i + 1, o ++ p', ad78, cap78) kr ?_ ?_ kr ?_
     · exact ⟨by omega, hQ.step om (fitK hf _ (at_mem (l := t.kids) (i := i) om)).ok hnm hml hf65 hp2, hc78⟩
     · first | omega | (dsimp only; omega)
     · exact subset_app (subset_cons am subset_nil) (ssS (ssS (ssS (ssS (ssS (ssS ss0))))))
   ·refine JC_region ?_; refine JL_m ?_; refine JL_m ?_; refine JL_gtr rfl rfl ?_; rw [decide_eq_true (p := ((i : Nat) : Int) > ((f : Nat) : Int)) om]; refine JL_m ?_; refine JL_gy ?_; refine JL_m ?_; refine JL_gy ?_; refine JL_m ?_; refine JL_gy ?_; refine JL_lss rfl rfl ?_; rw [decide_eq_true (p := ((i : Nat) : Int) < ((l : Nat) : Int)) om]; refine JL_pick_t rfl rfl ?_; refine JL_m ?_; refine JL_gy ?_; refine JL_fieldAddr fo66_2 rfl ?_; refine JL_gy ?_; refine JL_load 0 ty64 rfl rfl rfl ?_; refine JL_gy ?_; refine JL_m ?_; refine JL_gy ?_; refine JL_indexAddr i sl64 rfl rfl rfl om rdg (by rw [ncL_len]; omega) ?_; refine JL_gy ?_; refine JL_loadEA (vs := [_, _, _]) ty66 zp rfl rdg (ncL_getA om) ?_; refine JL_gy ?_; refine JL_m ?_; refine JL_gy ?_
    refine JL_callF' (Asks.cons (by first | exact holds_of_mem am | (exact holds_of_own 2 rfl)) (Asks.cons (by first | exact holds_of_mem am | (exact holds_of_own 2 rfl)) Asks.nil)) (conN1 (rstate_con hR (t.kids.getD i default) (fitK hf _ (at_mem (l := t.kids) (i := i) om)) (by have := nA_mem (at_mem (l := t.kids) (i := i) om); omega)) (at_mem (l := t.kids) (i := i) om)) rfl ca67 ⟨rfl, rfl, rfl⟩ ?_; rintro _ _ ⟨rfl, rfl⟩; refine JL_gy ?_; refine JL_neq rfl rfl ?_; rw [decide_eq_true (p := ((st (inI R) (er (t.kids.getD i default)) : Nat) : Int) ≠ 2) om]; refine JL_pick_t rfl rfl ?_; refine JL_du 81 [box _ _ [_, _, _], box _ _ [_, _, _], osl _ _ _ _ _ _] [_, _, _, _, _, _] ?_; refine JC_true rfl ?_; refine JC_sr ?_; refine JL_build (cs := [_, _, _]) [] st66 rfl rfl ?_; refine JL_store (vs := [_, _, _]) 1 ty66 rfl rfl rfl ao3 rfl bleq ?_; refine JL_a ?_; refine JL_du 81 [box _ _ [_, _, _], box _ _ [_, _, _], osl _ _ _ _ _ _] [_, _, _, _, _, _] ?_; refine JC_ret ?_; refine JE_then_ret ?_; refine JE_block_ret ?_; refine JE_then_ret ?_
    refine JE_nextS_ret ?_; refine JE_block_ret ?_; refine JE_then_ret ?_; refine JE_nLeaf (n := 0) ?_; refine JE_ret (vs := [_, _]) [vN (nw 0 false none 0 [])] Tryz.results70 ⟨RV.cell (vs := [_, _, _]) 1 ty66 rfl rfl ⟨rfl, rfl, rfl, trivial⟩, rfl, rfl⟩ ?_ ?_
    · exact ⟨nw 0 false none 0 [], false, rfl, rfl, .not (wth_no (by rw [hfe, hle]; exact hQ.no om (.inl ⟨by omega, by omega, by omega⟩)))⟩
    · exact (all_cons am all_nil)
   ·have hnm : ¬ (f < i ∧ i < l ∧ st (inI R) (er (t.kids.getD i default)) ≠ 2) := by omega
    refine JC_region ?_; refine JL_m ?_; refine JL_m ?_; refine JL_gtr rfl rfl ?_; rw [decide_eq_true (p := ((i : Nat) : Int) > ((f : Nat) : Int)) om]; refine JL_m ?_; refine JL_gy ?_; refine JL_m ?_; refine JL_gy ?_; refine JL_m ?_; refine JL_gy ?_; refine JL_lss rfl rfl ?_; rw [decide_eq_true (p := ((i : Nat) : Int) < ((l : Nat) : Int)) om]; refine JL_pick_t rfl rfl ?_; refine JL_m ?_; refine JL_gy ?_; refine JL_fieldAddr fo66_2 rfl ?_; refine JL_gy ?_; refine JL_load 0 ty64 rfl rfl rfl ?_; refine JL_gy ?_; refine JL_m ?_; refine JL_gy ?_; refine JL_indexAddr i sl64 rfl rfl rfl om rdg (by rw [ncL_len]; omega) ?_; refine JL_gy ?_; refine JL_loadEA (vs := [_, _, _]) ty66 zp rfl rdg (ncL_getA om) ?_; refine JL_gy ?_; refine JL_m ?_; refine JL_gy ?_
    refine JL_callF' (Asks.cons (by first | exact holds_of_mem am | (exact holds_of_own 2 rfl)) (Asks.cons (by first | exact holds_of_mem am | (exact holds_of_own 2 rfl)) Asks.nil)) (conN1 (rstate_con hR (t.kids.getD i default) (fitK hf _ (at_mem (l := t.kids) (i := i) om)) (by have := nA_mem (at_mem (l := t.kids) (i := i) om); omega)) (at_mem (l := t.kids) (i := i) om)) rfl ca67 ⟨rfl, rfl, rfl⟩ ?_; rintro _ _ ⟨rfl, rfl⟩; refine JL_gy ?_; refine JL_neq rfl rfl ?_; rw [decide_eq_false (p := ((st (inI R) (er (t.kids.getD i default)) : Nat) : Int) ≠ 2) om]; refine JL_pick_t rfl rfl ?_; refine JL_du 81 [box _ _ [_, _, _], box _ _ [_, _, _], osl _ _ _ _ _ _] [_, _, _, _, _, _] ?_; refine JC_false rfl ?_; refine JC_skip ?_; refine JE_then ?_; refine JC_sr ?_; refine JL_fieldAddr fo66_2 rfl ?_; refine JL_load 0 ty64 rfl rfl rfl ?_; refine JL_m ?_; refine JL_indexAddr i sl64 rfl rfl rfl om rdg (by rw [ncL_len]; omega) ?_; refine JL_loadEA (vs := [_, _, _]) ty66 zp rfl rdg (ncL_getA om) ?_
    refine JL_m ?_; refine JL_callA' true (AsksA.cons (holdsA_of_mem am) (AsksA.cons (holdsA_of_mem am) AsksA.nil)) (conNA (rside_con hR (t.kids.getD i default) (fitK hf _ (at_mem (l := t.kids) (i := i) om)) (by have := nA_mem (at_mem (l := t.kids) (i := i) om); omega)) (at_mem (l := t.kids) (i := i) om)) rfl ca102 ⟨rfl, rfl, rfl⟩ ?_; rintro _ _ ⟨o65, ad65, c65, b65, rfl, hc65, rfl, hf65, hl65⟩
    have hmid := mid_lin hnm (fun h => hfz i h) (fun h => hlz i h om)
    refine JL_m ?_; refine JL_extract (v := .slice ad65 o65.length c65) rfl rfl ?_; refine JL_extract (v := .bool b65) rfl rfl ?_; refine JL_a ?_; refine JL_a ?_; refine JL_du 81 [box _ _ [_, _, _], box _ _ [_, _, _], osl _ _ _ _ _ _] [_, _, _, _, _, _, _, _] ?_; refine JC_seq ?_; refine JC_sr ?_; refine JL_m ?_; refine JL_not rfl ?_; refine JL_dv 81 ?_; refine JC_cond rfl (fun hb => ?_) (fun hb => ?_)
    ·have h69 := hb
     refine JC_sr ?_; refine JL_build (cs := [_, _, _]) [] st66 rfl rfl ?_; refine JL_store (vs := [_, _, _]) 1 ty66 rfl rfl rfl ao3 rfl bleq ?_; refine JL_a ?_; refine JL_du 81 [box _ _ [_, _, _], box _ _ [_, _, _], osl _ _ _ _ _ _] [_, _, _, _, _, _, _, _] ?_; refine JC_ret ?_; refine JE_then_ret ?_; refine JE_block_ret ?_; refine JE_then_ret ?_; refine JE_nextS_ret ?_; refine JE_block_ret ?_; refine JE_then_ret ?_; refine JE_nLeaf (n := 0) ?_; refine JE_ret (vs := [_, _]) [vN (nw 0 false none 0 [])] Tryz.results70 ⟨RV.cell (vs := [_, _, _]) 1 ty66 rfl rfl ⟨rfl, rfl, rfl, trivial⟩, rfl, rfl⟩ ?_ ?_
     · exact ⟨nw 0 false none 0 [], false, rfl, rfl, .not (wth_no (by rw [hfe, hle]; exact hQ.no2 om (by rw [hmid, hl65, show b65 = false from by cases b65 with | false => rfl | true => exact absurd h69 (by decide)]; rfl)))⟩
     · exact (all_cons am all_nil)
    ·have h69 := hb
     refine JC_skip ?_; refine JE_then ?_; refine JC_seq ?_; refine JC_seq ?_; obtain rfl : b65 = true := by cases b65 with | true => rfl | false => exact absurd h69 (by decide)
     replace hl65 : lin (inI R) (er (t.kids.getD i default)) = some (o65.map er) := hl65
     have hml := hmid.trans hl65
     have hpN : nA o65 = (lvs (er (t.kids.getD i default))).length := lin_nl (fitK hf _ (at_mem (l := t.kids) (i := i) om)).ok hl65
     have hoL2 := nA_ge hf65
     have hkm := nA_mem (at_mem (l := t.kids) (i := i) om)
     refine JC_region ?_; refine JL_m ?_; refine JL_m ?_; refine JL_eql rfl rfl ?_; refine JL_dv 81 ?_; refine JC_cutT ((List AT) × (Option Addr) × (Nat)) (fun (p', adq, cq) => p' = if i = l then o65.reverse else o65) (fun u (p', adq, cq) => (rn 11 (some (.slice adq p'.length cq) :: rn 62 (sc u 74 2 [])))) (fun (p', adq, cq) => []) (fun (p', adq, cq) => [(true, vCells adq (ncL p'))]) ?_ ?_
     ·refine JC_cond rfl (fun hb => ?_) (fun hb => ?_)
      ·have h73 := of_decide_eq_true hb
       refine JC_region ?_; refine JL_m ?_; refine JL_callA' true (AsksA.cons (holdsA_of_mem am) AsksA.nil) (rturn_con (ks := o65) om) rfl ca78 ⟨rfl, rfl⟩ ?_; rintro _ _ ⟨ad75, c75, rfl, hc75, rfl⟩; refine JL_a ?_; refine JL_nu 81 [box _ _ [_, _, _], box _ _ [_, _, _], osl _ _ _ _ _ _] [_, _, _, _, _, _, _, _, _] ?_; refine JE_midS (o65.reverse, ad75, c75) kr ?_ kr ?_
       · exact (if_pos om).symm
       · exact subset_app (subset_cons am subset_nil) (ssS ss0)
      ·have h73 := of_decide_eq_false hb
       refine JC_skip ?_; refine JE_midS (o65, ad65, c65) kr ?_ kr ?_
       · exact (if_neg om).symm
       · exact subset_app (subset_cons am subset_nil) ss0
     intro u i hp2; obtain ⟨p', adq, cq⟩ := i; refine JC_nm 81 [box _ _ [_, _, _], box _ _ [_, _, _], osl _ _ _ _ _ _] [_, _, _, _, _, _, _, _, _] ?_; refine JC_region ?_; refine JL_m ?_; refine JL_m ?_
     have hpm : ∀ x ∈ p', x ∈ o65 := by subst hp2; split <;> simp
     have hpl' : p'.length = o65.length := by subst hp2; split <;> simp
     refine JL_append (news := ncL p') 2 sl64 rfl (by decide) rfl rfl rfl (by rw [ncL_len]) (Reads.view am) (ncL_one _) om om (fun ad78 cap78 hc78 => ?_); refine JL_norm _ [box _ _ [_, _, _], box _ _ [_, _, _], osl _ _ _ _ _ _] [_, _, _, _, _, _, _, _, _] rfl rfl rfl ?_; rw [ncL_app, ← List.length_append]; rw [← List.length_append] at hc78; refine JL_nSub (f := true) (l := o65) (m := p') am hpm ?_; refine JL_nApp (f := true) (l := o) (m := p') am am ?_; refine JL_a ?_; refine JL_nu 81 [box _ _ [_, _, _], box _ _ [_, _, _], osl _ _ _ _ _ _] [_, _, _, _, _, _, _, _, _, _, _] ?_; refine JE_block_normal ?_; refine JE_then ?_; refine JC_region ?_; refine JL_m ?_; refine JL_add_to rfl rfl i6o ?_; refine JL_a ?_; refine JL_nv 81 ?_; refine JE_nextS (i + 1, o ++ p', ad78, cap78) kr ?_ ?_ kr ?_
     · exact ⟨by omega, hQ.step om (fitK hf _ (at_mem (l := t.kids) (i := i) om)).ok hnm hml hf65 hp2, hc78⟩
     · first | omega | (dsimp only; omega)
     · exact subset_app (subset_cons am subset_nil) (ssS (ssS (ssS (ssS (ssS (ssS ss0))))))
  ·refine JL_dv 81 ?_; refine JC_false rfl ?_; refine JC_exit ?_; refine JE_then_exit ?_; refine JE_nextS_exit ?_; refine JE_block_exit ?_; refine JE_then ?_; refine JC_sr ?_; refine JL_m ?_; refine JL_give 2 rfl ?_; refine JL_norm _ [box _ _ [_, _, _], box _ _ [_, _, _]] [_, _, _, _, _, _, _] rfl rfl rfl ?_
   have hoL := nA_ge hQ.fit
   have hbi := nA_le t.kids i
   have hoN := hQ.len
   have hne := List.length_pos_iff.2 (fun e : o = [] => hQ.ne om (fitK hf) (kids_ne hk0) (by rw [e]; rfl))
   refine JL_callA' true (AsksA.cons (holdsA_of_mem am) (AsksA.cons (holdsA_of_mem am) AsksA.nil)) (rline_con hc3.1 om hne hQ.fit) rfl ca103 ⟨rfl, rfl⟩ ?_; rintro _ _ ⟨t80, rfl, rfl, hf80, he80⟩; refine JL_store (vs := [_, _, _]) 1 ty66 rfl rfl rfl ao3 rfl bleq ?_; refine JL_a ?_; refine JL_du 81 [box _ _ [_, _, _], box _ _ [_, _, _]] [_, _, _, _, _, _, _, _] ?_; refine JC_ret ?_; refine JE_ret (vs := [_, _]) [vN t80] Tryz.results70 ⟨RV.cell (vs := [_, _, _]) 1 ty66 rfl rfl ⟨rfl, rfl, rfl, trivial⟩, rfl, rfl⟩ ?_ ?_
   · exact ⟨t80, true, rfl, rfl, .same hf80 (wth_yes (by rw [hfe, hle]; exact hQ.done om) he80)⟩
   · exact (all_cons am all_nil)

set_option maxHeartbeats 2000000 in
set_option maxRecDepth 20000 in
theorem rred_con0 {adr : Option Addr} {cr : Nat} {R : List Int} (hR : R.length ≤ 1000) (t : AT) (hf : Fit t) (hL : (lvs (er t)).length ≤ 1000) 
    (IH : ∀ k ∈ t.kids, ConA Tryz.prog 40 [nval k, .slice adr R.length cr] [vCells adr (i64s R), vN k] (fun v φo => ∃ (t' : AT) (b3 : Bool), v = .tuple #[nval t', .bool b3] ∧ φo = [vN t'] ∧ RN t' b3 (redC (inI R) (er (k))))) :
    ConA Tryz.prog 40 [nval t, .slice adr R.length cr] [vCells adr (i64s R), vN t]
      (fun v φo => ∃ (t' : AT) (b3 : Bool), v = .tuple #[nval t', .bool b3] ∧ φo = [vN t'] ∧ RN t' b3 (redC (inI R) (er (t)))) := by
 refine ConA_of Tryz.func40 rfl 81 (_ :: _ :: rp 79) rfl rfl ?_; intro w0; refine JC_st [] [_, _] ?_; refine JC_sr ?_; refine JL_box rfl rfl (fun b2 => ?_); refine JL_alloc z66 (fun b4 => ?_); refine JL_a ?_; refine JL_du 81 [box _ _ [_, _, _], box _ _ [_, _, _]] [_, _] ?_; refine JC_seq ?_; refine JC_seq ?_; refine JC_nOpen (f := true) (t := t) am ?_; refine JC_region ?_; refine JL_loadA (vs := [_, _, _]) 0 ty66 rfl rfl ⟨rfl, rfl, rfl, trivial⟩ ?_; refine JL_m ?_; refine JL_callF' (Asks.cons (holds_of_mem am) (Asks.cons (holds_of_mem am) Asks.nil)) (rstate_con hR t hf hL) rfl ca67 ⟨rfl, rfl, rfl⟩ ?_; rintro _ _ ⟨rfl, rfl⟩; refine JL_neq rfl rfl ?_; refine JL_split (fun h17 => ?_) (fun h17 => ?_)
 ·refine JL_du 81 [box _ _ [_, _, _], box _ _ [_, _, _]] [_, _, _, _] ?_; refine JC_true rfl ?_; refine JC_sr ?_; refine JL_loadA (vs := [_, _, _]) 0 ty66 rfl rfl ⟨rfl, rfl, rfl, trivial⟩ ?_; refine JL_store (vs := [_, _, _]) 1 ty66 rfl rfl rfl ao3 rfl bleq ?_; refine JL_a ?_; refine JL_du 81 [box _ _ [_, _, _], box _ _ [_, _, _]] [_, _, _, _] ?_; refine JC_ret ?_; refine JE_then_ret ?_; refine JE_ret (vs := [_, _]) [vN t] Tryz.results40 ⟨RV.cell (vs := [_, _, _]) 1 ty66 rfl rfl ⟨rfl, rfl, rfl, trivial⟩, rfl, rfl⟩ ?_ ?_
  · exact ⟨t, true, rfl, rfl, .same hf (redC_same om)⟩
  · exact (all_cons am all_nil)
 ·have hst : st (inI R) (er t) = 1 := by omega
  have hk0 := st1_kids hst
  have hN := nA_kn hk0
  have hln := fitL hf
  have hcp := fitC hf
  have hc0 : cS (inI R) (er t) ≠ 0 := fun e => by have := (cS_zero hf.ok).1 e; omega
  refine JL_du 81 [box _ _ [_, _, _], box _ _ [_, _, _]] [_, _, _, _] ?_; refine JC_false rfl ?_; refine JC_skip ?_; refine JE_then ?_; refine JC_sr ?_; refine JL_loadA (vs := [_, _, _]) 0 ty66 rfl rfl ⟨rfl, rfl, rfl, trivial⟩ ?_; refine JL_m ?_; refine JL_callF' (Asks.cons (holds_of_mem am) (Asks.cons (holds_of_mem am) Asks.nil)) (rcount_con hR t hf hL) rfl ca68 ⟨rfl, rfl, rfl⟩ ?_; rintro _ _ ⟨rfl, rfl⟩; refine JL_m ?_; refine JL_extract (v := .int .i64 ((lvs (er t)).length : Nat)) rfl rfl ?_; refine JL_extract (v := .int .i64 (cS (inI R) (er t) : Nat)) rfl rfl ?_; refine JL_a ?_; refine JL_a ?_; refine JL_du 81 [box _ _ [_, _, _], box _ _ [_, _, _]] [_, _, _, _] ?_; refine JC_seq ?_; refine JC_sr ?_; refine JL_a ?_; refine JL_dv 81 ?_; refine JC_block ?_
  refine JC_loopS ((Nat)) (fun (i : Nat) => i ≤ t.kids.length ∧ ∀ j, j < i → cS (inI R) (er (t.kids.getD j default)) ≠ cS (inI R) (er t)) (fun (i : Nat) => t.kids.length - i) (fun u (i : Nat) => (rn 5 (some (u 5) :: rn 2 (some (.int .i64 (i : Nat)) :: sc u 9 5 (rn 11 (sc u 25 43 [])))))) (fun (i : Nat) => []) (fun (i : Nat) => []) (0) kr ?_ kr ?_ ?_
  · exact ⟨Nat.zero_le _, fun j hj => absurd hj (Nat.not_lt_zero _)⟩
  · exact subset_nil
  intro u i hC; obtain ⟨hi, hno⟩ := hC; refine JC_nm 81 [box _ _ [_, _, _], box _ _ [_, _, _]] [_, _, _, _] ?_; refine JC_seq ?_; refine JC_sr ?_; refine JL_m ?_; refine JL_fieldAddr fo66_2 rfl ?_; refine JL_load 0 ty64 rfl rfl rfl ?_; refine JL_len sl64 rfl ?_; refine JL_lss rfl rfl ?_; refine JL_split (fun h29 => ?_) (fun h29 => ?_)
  ·refine JL_dv 81 ?_; refine JC_true rfl ?_; refine JC_skip ?_; refine JE_then ?_; refine JC_seq ?_; refine JC_block ?_; refine JC_sr ?_; refine JL_fieldAddr fo66_2 rfl ?_; refine JL_load 0 ty64 rfl rfl rfl ?_; refine JL_m ?_; refine JL_indexAddr i sl64 rfl rfl rfl om rdg (by rw [ncL_len]; omega) ?_; refine JL_loadEA (vs := [_, _, _]) ty66 zp rfl rdg (ncL_getA om) ?_; refine JL_m ?_; refine JL_callF' (Asks.cons (holds_of_mem am) (Asks.cons (holds_of_mem am) Asks.nil)) (conN1 (rcount_con hR (t.kids.getD i default) (fitK hf _ (at_mem (l := t.kids) (i := i) om)) (by have := nA_mem (at_mem (l := t.kids) (i := i) om); omega)) (at_mem (l := t.kids) (i := i) om)) rfl ca68 ⟨rfl, rfl, rfl⟩ ?_; rintro _ _ ⟨rfl, rfl⟩; refine JL_m ?_; refine JL_extract (v := .int .i64 ((lvs (er (t.kids.getD i default))).length : Nat)) rfl rfl ?_; refine JL_extract (v := .int .i64 (cS (inI R) (er (t.kids.getD i default)) : Nat)) rfl rfl ?_; refine JL_a ?_; refine JL_a ?_
   refine JL_du 81 [box _ _ [_, _, _], box _ _ [_, _, _]] [_, _, _, _] ?_; refine JC_sr ?_; refine JL_m ?_; refine JL_m ?_; refine JL_eql rfl rfl ?_; refine JL_split (fun h44 => ?_) (fun h44 => ?_)
   ·refine JL_dv 81 ?_; refine JC_true rfl ?_; refine JC_sr ?_; refine JL_fieldAddr fo66_2 rfl ?_; refine JL_load 0 ty64 rfl rfl rfl ?_; refine JL_m ?_; refine JL_indexAddr i sl64 rfl rfl rfl om rdg (by rw [ncL_len]; omega) ?_; refine JL_loadEA (vs := [_, _, _]) ty66 zp rfl rdg (ncL_getA om) ?_; refine JL_m ?_; refine JL_callA' true (AsksA.cons (holdsA_of_mem am) (AsksA.cons (holdsA_of_mem am) AsksA.nil)) (conNA (IH (t.kids.getD i default) (at_mem (l := t.kids) (i := i) om)) (at_mem (l := t.kids) (i := i) om)) rfl ca40 ⟨rfl, rfl, rfl⟩ ?_; rintro _ _ ⟨t52, b52, rfl, rfl, hr52⟩; refine JL_m ?_; refine JL_extract (v := nval t52) rfl rfl ?_; refine JL_extract (v := .bool b52) rfl rfl ?_; refine JL_alloc z66 (fun b11 => ?_); refine JL_store (vs := [_, _, _]) 2 ty66 rfl rfl rfl ao3 rfl bleq ?_; refine JL_a ?_; refine JL_du 81 [box _ _ [_, _, _], box _ _ [_, _, _], box _ _ [_, _, _]] [_, _, _, _, _] ?_; refine JC_sr ?_
    refine JL_build0 sl64 (fun g55 => ?_); refine JL_fieldAddr fo66_2 rfl ?_; refine JL_load 0 ty64 rfl rfl rfl ?_; refine JL_append (news := ncL t.kids) 3 sl64 rfl (by decide) rfl rfl rfl (by rw [ncL_len]) (Reads.view am) (ncL_one _) om om (fun ad58 cap58 hc58 => ?_); refine JL_norm _ [box _ _ [_, _, _], box _ _ [_, _, _], box _ _ [_, _, _], osl _ _ _ _ _ _] [_, _, _, _, _] rfl rfl rfl ?_; rw [List.nil_append]; refine JL_a ?_; refine JL_du 81 [box _ _ [_, _, _], box _ _ [_, _, _], box _ _ [_, _, _], osl _ _ _ _ _ _] [_, _, _, _, _] ?_; refine JC_sr ?_; refine JL_m ?_; refine JL_m ?_; refine JL_loadA (vs := [_, _, _]) 2 ty66 rfl rfl ⟨rfl, rfl, rfl, trivial⟩ ?_; refine JL_indexAddr i sl64 rfl rfl rfl om (Reads.own 3 rfl) (by rw [ncL_len]; omega) ?_; refine JL_storeE (vs := [_, _, _]) 3 ty66 zp rfl rfl rfl ao3 rfl (by rw [ncL_len]; simp only [List.length_cons, List.length_nil]; omega) ?_; refine JL_norm _ [box _ _ [_, _, _], box _ _ [_, _, _], box _ _ [_, _, _], osl _ _ _ _ _ (setAll (ncL t.kids) (i * 3) (nc t52))] _ rfl rfl rfl ?_
    rw [ncL_set _ _ _ om]; refine JL_du 81 [box _ _ [_, _, _], box _ _ [_, _, _], box _ _ [_, _, _], osl _ _ _ _ _ _] [_, _, _, _, _] ?_; refine JC_sr ?_; refine JL_fieldAddr fo66_0 rfl ?_; refine JL_load 0 ty3 rfl rfl rfl ?_; refine JL_m ?_; refine JL_build (cs := [_, _, _]) [(0, [_]), (2, [_])] st66 ⟨⟨rfl, _, rfl, rfl⟩, ⟨rfl, _, rfl, rfl⟩, rfl⟩ rfl ?_; refine JL_m ?_; refine JL_store (vs := [_, _, _]) 1 ty66 rfl rfl rfl ao3 rfl bleq ?_; refine JL_a ?_; refine JL_du 81 [box _ _ [_, _, _], box _ _ [_, _, _], box _ _ [_, _, _], osl _ _ _ _ _ _] [_, _, _, _, _] ?_; refine JC_ret ?_; refine JE_block_ret ?_; refine JE_then_ret ?_; refine JE_nextS_ret ?_; refine JE_block_ret ?_; refine JE_then_ret ?_; refine JE_nSet (f := true) (l := t.kids) (x := t52) (i := i) am am ?_; refine JE_give 3 rfl ?_; refine JE_norm _ [box _ _ [_, _, _], box _ _ [_, _, _], box _ _ [_, _, _]] [_, _, _, _, _, _, _] rfl rfl rfl ?_; refine JE_nMake (f := true) (n := 0) (q := t.line) (ad := ad58) (cap := cap58) (ks := t.kids.set i t52) am am ?_
    refine JE_ret (vs := [_, _]) [vN (nw 0 t.line ad58 cap58 (t.kids.set i t52))] Tryz.results40 ⟨RV.cell (vs := [_, _, _]) 1 ty66 rfl rfl ⟨rfl, rfl, rfl, trivial⟩, rfl, rfl⟩ ?_ ?_
    · exact ⟨nw 0 t.line ad58 cap58 (t.kids.set i t52), b52, by rw [← nval_set, Nat.zero_add]; rfl, rfl, RN.kid hf hst hk0 om hc0 om hr52 om⟩
    · exact (all_cons am all_nil)
   ·refine JL_dv 81 ?_; refine JC_false rfl ?_; refine JC_skip ?_; refine JE_block_normal ?_; refine JE_then ?_; refine JC_region ?_; refine JL_m ?_; refine JL_add_to rfl rfl i6o ?_; refine JL_a ?_; refine JL_nv 81 ?_; refine JE_nextS (i + 1) kr ?_ ?_ kr ?_
    · exact ⟨by omega, fun j hj => by
      rcases Nat.lt_or_ge j i with h | h
      · exact hno j h
      · obtain rfl : j = i := by omega
        omega⟩
    · first | omega | (dsimp only; omega)
    · exact subset_app subset_nil ss0
  ·refine JL_dv 81 ?_; refine JC_false rfl ?_; refine JC_exit ?_; refine JE_then_exit ?_; refine JE_nextS_exit ?_; refine JE_block_exit ?_; refine JE_then ?_; refine JC_seq ?_; refine JC_seq ?_
   have hs1 := no_kid (S := (inI R)) (fitK hf) (fun j hj => by rw [← cS_kn hk0]; exact hno j om)
   have hs0 : some_ (inI R) (t.kids.map er) ≠ 0 := fun e => hc0 (by rw [cS_kn hk0]; exact (cL_zero (okM (fitK hf))).2 e)
   refine JC_region ?_; refine JL_fieldAddr fo66_0 rfl ?_; refine JL_load 0 ty3 rfl rfl rfl ?_; refine JL_eql rfl rfl ?_; refine JL_split (fun h70 => ?_) (fun h70 => ?_)
   ·have hq : t.line = false := (kd_one.1 h70).2
    refine JL_dv 81 ?_; refine JC_true rfl ?_; refine JC_sr ?_; refine JL_loadA (vs := [_, _, _]) 0 ty66 rfl rfl ⟨rfl, rfl, rfl, trivial⟩ ?_; refine JL_m ?_; refine JL_callA' true (AsksA.cons (holdsA_of_mem am) (AsksA.cons (holdsA_of_mem am) AsksA.nil)) (rtog_con hR t hf hL hs0 hk0) rfl ca69 ⟨rfl, rfl, rfl⟩ ?_; rintro _ _ ⟨t73, b73, rfl, rfl, hr73⟩; refine JL_extract (v := nval t73) rfl rfl ?_; refine JL_extract (v := .bool b73) rfl rfl ?_; refine JL_store (vs := [_, _, _]) 1 ty66 rfl rfl rfl ao3 rfl bleq ?_; refine JL_a ?_; refine JL_du 81 [box _ _ [_, _, _], box _ _ [_, _, _]] [_, _, _, _, _] ?_; refine JC_ret ?_; refine JE_then_ret ?_; refine JE_ret (vs := [_, _]) [vN t73] Tryz.results40 ⟨RV.cell (vs := [_, _, _]) 1 ty66 rfl rfl ⟨rfl, rfl, rfl, trivial⟩, rfl, rfl⟩ ?_ ?_
    · exact ⟨t73, b73, rfl, rfl, by rw [redC_many hst hk0 hs1 hq]; exact hr73⟩
    · exact (all_cons am all_nil)
   ·have hq : t.line = true := by cases e : t.line with | true => rfl | false => exact absurd (kd_one.2 ⟨hk0, e⟩) h70
    refine JL_dv 81 ?_; refine JC_false rfl ?_; refine JC_skip ?_; refine JE_then ?_; refine JC_sr ?_; refine JL_loadA (vs := [_, _, _]) 0 ty66 rfl rfl ⟨rfl, rfl, rfl, trivial⟩ ?_; refine JL_m ?_; refine JL_callA' true (AsksA.cons (holdsA_of_mem am) (AsksA.cons (holdsA_of_mem am) AsksA.nil)) (rbtw_con hR t hf hL hs0 hk0) rfl ca70 ⟨rfl, rfl, rfl⟩ ?_; rintro _ _ ⟨t78, b78, rfl, rfl, hr78⟩; refine JL_extract (v := nval t78) rfl rfl ?_; refine JL_extract (v := .bool b78) rfl rfl ?_; refine JL_store (vs := [_, _, _]) 1 ty66 rfl rfl rfl ao3 rfl bleq ?_; refine JL_a ?_; refine JL_du 81 [box _ _ [_, _, _], box _ _ [_, _, _]] [_, _, _, _, _] ?_; refine JC_ret ?_; refine JE_ret (vs := [_, _]) [vN t78] Tryz.results40 ⟨RV.cell (vs := [_, _, _]) 1 ty66 rfl rfl ⟨rfl, rfl, rfl, trivial⟩, rfl, rfl⟩ ?_ ?_
    · exact ⟨t78, b78, rfl, rfl, by rw [redC_many hst hk0 hs1 hq]; exact hr78⟩
    · exact (all_cons am all_nil)

theorem rred_con {adr : Option Addr} {cr : Nat} {R : List Int} (hR : R.length ≤ 1000) (t : AT) : Fit t → (lvs (er t)).length ≤ 1000 → ConA Tryz.prog 40 [nval t, .slice adr R.length cr] [vCells adr (i64s R), vN t] (fun v φo => ∃ (t' : AT) (b3 : Bool), v = .tuple #[nval t', .bool b3] ∧ φo = [vN t'] ∧ RN t' b3 (redC (inI R) (er (t)))) := by
  induction t using AT.indP with
  | h t ih => exact fun hf hL => rred_con0 hR t hf hL fun k hk => ih k hk (fitK hf k hk) (by
      have h1 : t.kids.length ≠ 0 := fun e => by rw [List.length_eq_zero_iff.1 e] at hk; cases hk
      rw [nA_kn h1] at hL
      have := nA_mem hk
      omega)

set_option maxHeartbeats 1000000 in
theorem rasc_con {ad : Option Addr} {c : Nat} {L : List Int} (hln : L.length ≤ 1000000) {n : Nat} :
    ConF Tryz.prog 34 [.slice ad L.length c, .int .i64 0, .int .i64 (((n : Nat) : Int) - 1)] [vCells ad (i64s L)]
      (fun v φo => v = .bool (decide (ascR L n)) ∧ φo = []) := by
 refine ConF_of Tryz.func34 rfl 44 (_ :: _ :: _ :: rp 41) rfl rfl ?_; intro w0; refine JC_st [] [_] ?_; refine JC_sr ?_; refine JL_a ?_; refine JL_dv 44 ?_; refine JC_seq ?_; refine JC_sr ?_; refine JL_a ?_; refine JL_dv 44 ?_; refine JC_block ?_; refine JC_loopS ((Nat)) (fun (i : Nat) => i ≤ L.length ∧ ∀ j, j < i → okA L n j) (fun (i : Nat) => L.length - i) (fun u (i : Nat) => (rn 6 (some (u 6) :: some (.int .i64 (i : Nat)) :: sc u 8 36 []))) (fun (i : Nat) => []) (fun (i : Nat) => []) (0) kr ?_ kr ?_ ?_
 · exact ⟨Nat.zero_le _, fun j hj => absurd hj (Nat.not_lt_zero _)⟩
 · exact subset_nil
 intro u i hC; obtain ⟨hk, hj⟩ := hC; refine JC_nm 44 [] [_] ?_; refine JC_seq ?_; refine JC_sr ?_; refine JL_m ?_; refine JL_m ?_; refine JL_len sl32 rfl ?_; refine JL_lss rfl rfl ?_; refine JL_split (fun h11 => ?_) (fun h11 => ?_)
 ·refine JL_dv 44 ?_; refine JC_true rfl ?_; refine JC_skip ?_; refine JE_then ?_; refine JC_seq ?_; refine JC_block ?_; refine JC_seq ?_
  rcases up4Z L n i with hA | hA | hA | hA | hA
  ·refine JC_drawT mixed 27 [spV 14 [] _, spV 15 [] _, spV 16 [0, 1] _, spV 17 [2] _, spV 18 [] _, spV 19 [3, 4] _, spV 20 [5] _, spV 21 [6] _, spV 22 [6] _, spV 23 [6, 7, 8] _, spV 24 [6, 9] _, spV 25 [6] _, spV 26 [6, 10, 11] _, spV 27 [6, 12] _, spV 28 [13] _, spV 29 [14] _, spV 30 [14, 15] _, spV 31 [14, 16] _, spV 32 [17] _, spV 33 [17] _, spV 34 [17, 18, 19] _, spV 35 [17, 20] _, spV 36 [17] _, spV 37 [17] _, spV 38 [17, 23] _, spV 39 [17, 22, 24] _, spV 40 [17, 25] _] ⟨oM, oM, OblS_V (fun vals ex ψ => (by refine JL_normQ _ (_ :: ψ) rfl rfl ?_; refine JL_idx i sl32 rfl rfl rfl om rdg lno ?_; exact vz rfl)), OblS_V (fun vals ex ψ => (by refine JL_normQ _ (_ :: ψ) rfl rfl ?_; refine JL_loadE ty3 rfl rdg (i64s_get om) ?_; exact vz rfl)), oM, OblS_V (fun vals ex ψ => (by refine JL_lss rfl rfl ?_; rw [decide_eq_true (p := L.getD i 0 < 0) om]; exact vz rfl)), oM, oN, oN, oN, oN, oN, oN, OblS_V (fun vals ex ψ => (by refine JL_pick_t rfl rfl ?_; exact vz rfl)), oM, oN, oN, oN, OblS_V (fun vals ex ψ => (by refine JL_guard_un rfl rfl ?_; exact JL_nil (JE_stepV rfl ss0))), OblS_V (fun vals ex ψ => (by refine JL_guard_un rfl rfl ?_; exact JL_nil (JE_stepV rfl ss0))), OblS_V (fun vals ex ψ => (by refine JL_guard_un rfl rfl ?_; exact JL_nil (JE_stepV rfl ss0))), OblS_V (fun vals ex ψ => (by refine JL_guard_un rfl rfl ?_; exact JL_nil (JE_stepV rfl ss0))), OblS_V (fun vals ex ψ => (by refine JL_guard_un rfl rfl ?_; exact JL_nil (JE_stepV rfl ss0))), OblS_V (fun vals ex ψ => (by refine JL_guard_un rfl rfl ?_; exact JL_nil (JE_stepV rfl ss0))), OblS_V (fun vals ex ψ => (by
     refine JL_guard_un rfl rfl ?_; exact JL_nil (JE_stepV rfl ss0))), OblS_V (fun vals ex ψ => (by refine JL_guard_un rfl rfl ?_; exact JL_nil (JE_stepV rfl ss0))), OblS_V (fun vals ex ψ => (by refine JL_guard_un rfl rfl ?_; exact JL_nil (JE_stepV rfl ss0))), trivial⟩ kr (fun vals bs => ?_)
   refine JL_normL [_, _, _] ⟨44, [(14, _), (15, _), (16, _), (17, _), (18, _), (19, _), (20, _), (21, _), (22, _), (23, _), (24, _), (25, _), (26, _), (27, _), (28, _), (29, _), (30, _), (31, _), (32, _), (33, _), (34, _), (35, _), (36, _), (37, _), (38, _), (39, _), (40, _)], _⟩ [] [_] rfl rfl rfl rfl ?_; refine JL_guard_un rfl rfl ?_; refine JL_gn ?_; refine JL_pick_t rfl rfl ?_; refine JL_du 44 [] [_] ?_; refine JC_true rfl ?_; refine JC_sr ?_; refine JL_a ?_; refine JL_dv 44 ?_; refine JC_ret ?_; refine JE_block_ret ?_; refine JE_then_ret ?_; refine JE_nextS_ret ?_; refine JE_block_ret ?_; refine JE_then_ret ?_; refine JE_ret (vs := [_]) [] Tryz.results34 ⟨rfl, rfl⟩ ?_ ?_
   · rw [asc_no (i := i) om (by unfold okA; omega)]; exact ⟨rfl, rfl⟩
   · exact all_nil
  ·refine JC_drawT mixed 27 [spV 14 [] _, spV 15 [] _, spV 16 [0, 1] _, spV 17 [2] _, spV 18 [] _, spV 19 [3, 4] _, spV 20 [5] _, spV 21 [6] _, spV 22 [6] _, spV 23 [6, 7, 8] _, spV 24 [6, 9] _, spV 25 [6] _, spV 26 [6, 10, 11] _, spV 27 [6, 12] _, spV 28 [13] _, spV 29 [14] _, spV 30 [14, 15] _, spV 31 [14, 16] _, spV 32 [17] _, spV 33 [17] _, spV 34 [17, 18, 19] _, spV 35 [17, 20] _, spV 36 [17] _, spV 37 [17] _, spV 38 [17, 23] _, spV 39 [17, 22, 24] _, spV 40 [17, 25] _] ⟨oM, oM, OblS_V (fun vals ex ψ => (by refine JL_normQ _ (_ :: ψ) rfl rfl ?_; refine JL_idx i sl32 rfl rfl rfl om rdg lno ?_; exact vz rfl)), OblS_V (fun vals ex ψ => (by refine JL_normQ _ (_ :: ψ) rfl rfl ?_; refine JL_loadE ty3 rfl rdg (i64s_get om) ?_; exact vz rfl)), oM, OblS_V (fun vals ex ψ => (by refine JL_lss rfl rfl ?_; rw [decide_eq_false (p := L.getD i 0 < 0) om]; exact vz rfl)), oM, oG, oG, OblS_V (fun vals ex ψ => (by refine JL_normQ _ (_ :: ψ) rfl rfl ?_; refine JL_gy ?_; refine JL_idx i sl32 rfl rfl rfl om rdg lno ?_; exact vz rfl)), OblS_V (fun vals ex ψ => (by refine JL_normQ _ (_ :: ψ) rfl rfl ?_; refine JL_gy ?_; refine JL_loadE ty3 rfl rdg (i64s_get om) ?_; exact vz rfl)), oG, OblS_V (fun vals ex ψ => (by refine JL_gy ?_; refine JL_gtr rfl rfl ?_; rw [decide_eq_true (p := ((n : Nat) : Int) - 1 < L.getD i 0) om]; exact vz rfl)), OblS_V (fun vals ex ψ => (by refine JL_pick_f rfl rfl ?_; exact vz rfl)), oM, oN, oN, oN, OblS_V (fun vals ex ψ => (by
     refine JL_guard_un rfl rfl ?_; exact JL_nil (JE_stepV rfl ss0))), OblS_V (fun vals ex ψ => (by refine JL_guard_un rfl rfl ?_; exact JL_nil (JE_stepV rfl ss0))), OblS_V (fun vals ex ψ => (by refine JL_guard_un rfl rfl ?_; exact JL_nil (JE_stepV rfl ss0))), OblS_V (fun vals ex ψ => (by refine JL_guard_un rfl rfl ?_; exact JL_nil (JE_stepV rfl ss0))), OblS_V (fun vals ex ψ => (by refine JL_guard_un rfl rfl ?_; exact JL_nil (JE_stepV rfl ss0))), OblS_V (fun vals ex ψ => (by refine JL_guard_un rfl rfl ?_; exact JL_nil (JE_stepV rfl ss0))), OblS_V (fun vals ex ψ => (by refine JL_guard_un rfl rfl ?_; exact JL_nil (JE_stepV rfl ss0))), OblS_V (fun vals ex ψ => (by refine JL_guard_un rfl rfl ?_; exact JL_nil (JE_stepV rfl ss0))), OblS_V (fun vals ex ψ => (by refine JL_guard_un rfl rfl ?_; exact JL_nil (JE_stepV rfl ss0))), trivial⟩ kr (fun vals bs => ?_)
   refine JL_normL [_, _, _] ⟨44, [(14, _), (15, _), (16, _), (17, _), (18, _), (19, _), (20, _), (21, _), (22, _), (23, _), (24, _), (25, _), (26, _), (27, _), (28, _), (29, _), (30, _), (31, _), (32, _), (33, _), (34, _), (35, _), (36, _), (37, _), (38, _), (39, _), (40, _)], _⟩ [] [_] rfl rfl rfl rfl ?_; refine JL_guard_un rfl rfl ?_; refine JL_gn ?_; refine JL_pick_t rfl rfl ?_; refine JL_du 44 [] [_] ?_; refine JC_true rfl ?_; refine JC_sr ?_; refine JL_a ?_; refine JL_dv 44 ?_; refine JC_ret ?_; refine JE_block_ret ?_; refine JE_then_ret ?_; refine JE_nextS_ret ?_; refine JE_block_ret ?_; refine JE_then_ret ?_; refine JE_ret (vs := [_]) [] Tryz.results34 ⟨rfl, rfl⟩ ?_ ?_
   · rw [asc_no (i := i) om (by unfold okA; omega)]; exact ⟨rfl, rfl⟩
   · exact all_nil
  ·refine JC_drawT mixed 27 [spV 14 [] _, spV 15 [] _, spV 16 [0, 1] _, spV 17 [2] _, spV 18 [] _, spV 19 [3, 4] _, spV 20 [5] _, spV 21 [6] _, spV 22 [6] _, spV 23 [6, 7, 8] _, spV 24 [6, 9] _, spV 25 [6] _, spV 26 [6, 10, 11] _, spV 27 [6, 12] _, spV 28 [13] _, spV 29 [14] _, spV 30 [14, 15] _, spV 31 [14, 16] _, spV 32 [17] _, spV 33 [17] _, spV 34 [17, 18, 19] _, spV 35 [17, 20] _, spV 36 [17] _, spV 37 [17] _, spV 38 [17, 23] _, spV 39 [17, 22, 24] _, spV 40 [17, 25] _] ⟨oM, oM, OblS_V (fun vals ex ψ => (by refine JL_normQ _ (_ :: ψ) rfl rfl ?_; refine JL_idx i sl32 rfl rfl rfl om rdg lno ?_; exact vz rfl)), OblS_V (fun vals ex ψ => (by refine JL_normQ _ (_ :: ψ) rfl rfl ?_; refine JL_loadE ty3 rfl rdg (i64s_get om) ?_; exact vz rfl)), oM, OblS_V (fun vals ex ψ => (by refine JL_lss rfl rfl ?_; rw [decide_eq_false (p := L.getD i 0 < 0) om]; exact vz rfl)), oM, oG, oG, OblS_V (fun vals ex ψ => (by refine JL_normQ _ (_ :: ψ) rfl rfl ?_; refine JL_gy ?_; refine JL_idx i sl32 rfl rfl rfl om rdg lno ?_; exact vz rfl)), OblS_V (fun vals ex ψ => (by refine JL_normQ _ (_ :: ψ) rfl rfl ?_; refine JL_gy ?_; refine JL_loadE ty3 rfl rdg (i64s_get om) ?_; exact vz rfl)), oG, OblS_V (fun vals ex ψ => (by refine JL_gy ?_; refine JL_gtr rfl rfl ?_; rw [decide_eq_false (p := ((n : Nat) : Int) - 1 < L.getD i 0) om]; exact vz rfl)), OblS_V (fun vals ex ψ => (by refine JL_pick_f rfl rfl ?_; exact vz rfl)), oM, oG, OblS_V (fun vals ex ψ => (by
     refine JL_gy ?_; refine JL_gtr rfl rfl ?_; rw [decide_eq_false (p := (0 : Int) < (i : Int)) om]; exact vz rfl)), oG, oN, oN, oN, oN, oN, oN, oN, oN, oN, trivial⟩ kr (fun vals bs => ?_)
   refine JL_normL [_, _, _] ⟨44, [(14, _), (15, _), (16, _), (17, _), (18, _), (19, _), (20, _), (21, _), (22, _), (23, _), (24, _), (25, _), (26, _), (27, _), (28, _), (29, _), (30, _), (31, _), (32, _), (33, _), (34, _), (35, _), (36, _), (37, _), (38, _), (39, _), (40, _)], _⟩ [] [_] rfl rfl rfl rfl ?_; refine JL_gn ?_; refine JL_gy ?_; refine JL_pick_f rfl rfl ?_; refine JL_pick_f rfl rfl ?_; refine JL_du 44 [] [_] ?_; refine JC_false rfl ?_; refine JC_skip ?_; refine JE_block_normal ?_; refine JE_then ?_; refine JC_region ?_; refine JL_m ?_; refine JL_add_to rfl rfl i6o ?_; refine JL_a ?_; refine JL_nv 44 ?_; refine JE_nextS (i + 1) kr ?_ ?_ kr ?_
   · exact ⟨by omega, ascR_step hj (by unfold okA; omega)⟩
   · first | omega | (dsimp only; omega)
   · exact subset_app subset_nil ss0
  ·refine JC_drawT mixed 27 [spV 14 [] _, spV 15 [] _, spV 16 [0, 1] _, spV 17 [2] _, spV 18 [] _, spV 19 [3, 4] _, spV 20 [5] _, spV 21 [6] _, spV 22 [6] _, spV 23 [6, 7, 8] _, spV 24 [6, 9] _, spV 25 [6] _, spV 26 [6, 10, 11] _, spV 27 [6, 12] _, spV 28 [13] _, spV 29 [14] _, spV 30 [14, 15] _, spV 31 [14, 16] _, spV 32 [17] _, spV 33 [17] _, spV 34 [17, 18, 19] _, spV 35 [17, 20] _, spV 36 [17] _, spV 37 [17] _, spV 38 [17, 23] _, spV 39 [17, 22, 24] _, spV 40 [17, 25] _] ⟨oM, oM, OblS_V (fun vals ex ψ => (by refine JL_normQ _ (_ :: ψ) rfl rfl ?_; refine JL_idx i sl32 rfl rfl rfl om rdg lno ?_; exact vz rfl)), OblS_V (fun vals ex ψ => (by refine JL_normQ _ (_ :: ψ) rfl rfl ?_; refine JL_loadE ty3 rfl rdg (i64s_get om) ?_; exact vz rfl)), oM, OblS_V (fun vals ex ψ => (by refine JL_lss rfl rfl ?_; rw [decide_eq_false (p := L.getD i 0 < 0) om]; exact vz rfl)), oM, oG, oG, OblS_V (fun vals ex ψ => (by refine JL_normQ _ (_ :: ψ) rfl rfl ?_; refine JL_gy ?_; refine JL_idx i sl32 rfl rfl rfl om rdg lno ?_; exact vz rfl)), OblS_V (fun vals ex ψ => (by refine JL_normQ _ (_ :: ψ) rfl rfl ?_; refine JL_gy ?_; refine JL_loadE ty3 rfl rdg (i64s_get om) ?_; exact vz rfl)), oG, OblS_V (fun vals ex ψ => (by refine JL_gy ?_; refine JL_gtr rfl rfl ?_; rw [decide_eq_false (p := ((n : Nat) : Int) - 1 < L.getD i 0) om]; exact vz rfl)), OblS_V (fun vals ex ψ => (by refine JL_pick_f rfl rfl ?_; exact vz rfl)), oM, oG, OblS_V (fun vals ex ψ => (by
     refine JL_gy ?_; refine JL_gtr rfl rfl ?_; rw [decide_eq_true (p := (0 : Int) < (i : Int)) om]; exact vz rfl)), oG, oG, oG, OblS_V (fun vals ex ψ => (by refine JL_normQ _ (_ :: ψ) rfl rfl ?_; refine JL_gy ?_; refine JL_idx i sl32 rfl rfl rfl om rdg lno ?_; exact vz rfl)), OblS_V (fun vals ex ψ => (by refine JL_normQ _ (_ :: ψ) rfl rfl ?_; refine JL_gy ?_; refine JL_loadE ty3 rfl rdg (i64s_get om) ?_; exact vz rfl)), oG, oG, OblS_V (fun vals ex ψ => (by refine JL_gy ?_; refine JL_sub_to rfl rfl i6o ?_; exact vz rfl)), OblS_V (fun vals ex ψ => (by refine JL_normQ _ (_ :: ψ) rfl rfl ?_; refine JL_gy ?_; refine JL_idx (i - 1) sl32 rfl rfl om om rdg lno ?_; exact vz rfl)), OblS_V (fun vals ex ψ => (by refine JL_normQ _ (_ :: ψ) rfl rfl ?_; refine JL_gy ?_; refine JL_loadE ty3 rfl rdg (i64s_get om) ?_; exact vz rfl)), trivial⟩ kr (fun vals bs => ?_)
   refine JL_normL [_, _, _] ⟨44, [(14, _), (15, _), (16, _), (17, _), (18, _), (19, _), (20, _), (21, _), (22, _), (23, _), (24, _), (25, _), (26, _), (27, _), (28, _), (29, _), (30, _), (31, _), (32, _), (33, _), (34, _), (35, _), (36, _), (37, _), (38, _), (39, _), (40, _)], _⟩ [] [_] rfl rfl rfl rfl ?_; refine JL_gy ?_; refine JL_leq rfl rfl ?_; rw [decide_eq_true (p := L.getD i 0 ≤ L.getD (i - 1) 0) om]; refine JL_gy ?_; refine JL_pick_t rfl rfl ?_; refine JL_pick_f rfl rfl ?_; refine JL_du 44 [] [_] ?_; refine JC_true rfl ?_; refine JC_sr ?_; refine JL_a ?_; refine JL_dv 44 ?_; refine JC_ret ?_; refine JE_block_ret ?_; refine JE_then_ret ?_; refine JE_nextS_ret ?_; refine JE_block_ret ?_; refine JE_then_ret ?_; refine JE_ret (vs := [_]) [] Tryz.results34 ⟨rfl, rfl⟩ ?_ ?_
   · rw [asc_no (i := i) om (by unfold okA; omega)]; exact ⟨rfl, rfl⟩
   · exact all_nil
  ·refine JC_drawT mixed 27 [spV 14 [] _, spV 15 [] _, spV 16 [0, 1] _, spV 17 [2] _, spV 18 [] _, spV 19 [3, 4] _, spV 20 [5] _, spV 21 [6] _, spV 22 [6] _, spV 23 [6, 7, 8] _, spV 24 [6, 9] _, spV 25 [6] _, spV 26 [6, 10, 11] _, spV 27 [6, 12] _, spV 28 [13] _, spV 29 [14] _, spV 30 [14, 15] _, spV 31 [14, 16] _, spV 32 [17] _, spV 33 [17] _, spV 34 [17, 18, 19] _, spV 35 [17, 20] _, spV 36 [17] _, spV 37 [17] _, spV 38 [17, 23] _, spV 39 [17, 22, 24] _, spV 40 [17, 25] _] ⟨oM, oM, OblS_V (fun vals ex ψ => (by refine JL_normQ _ (_ :: ψ) rfl rfl ?_; refine JL_idx i sl32 rfl rfl rfl om rdg lno ?_; exact vz rfl)), OblS_V (fun vals ex ψ => (by refine JL_normQ _ (_ :: ψ) rfl rfl ?_; refine JL_loadE ty3 rfl rdg (i64s_get om) ?_; exact vz rfl)), oM, OblS_V (fun vals ex ψ => (by refine JL_lss rfl rfl ?_; rw [decide_eq_false (p := L.getD i 0 < 0) om]; exact vz rfl)), oM, oG, oG, OblS_V (fun vals ex ψ => (by refine JL_normQ _ (_ :: ψ) rfl rfl ?_; refine JL_gy ?_; refine JL_idx i sl32 rfl rfl rfl om rdg lno ?_; exact vz rfl)), OblS_V (fun vals ex ψ => (by refine JL_normQ _ (_ :: ψ) rfl rfl ?_; refine JL_gy ?_; refine JL_loadE ty3 rfl rdg (i64s_get om) ?_; exact vz rfl)), oG, OblS_V (fun vals ex ψ => (by refine JL_gy ?_; refine JL_gtr rfl rfl ?_; rw [decide_eq_false (p := ((n : Nat) : Int) - 1 < L.getD i 0) om]; exact vz rfl)), OblS_V (fun vals ex ψ => (by refine JL_pick_f rfl rfl ?_; exact vz rfl)), oM, oG, OblS_V (fun vals ex ψ => (by
     refine JL_gy ?_; refine JL_gtr rfl rfl ?_; rw [decide_eq_true (p := (0 : Int) < (i : Int)) om]; exact vz rfl)), oG, oG, oG, OblS_V (fun vals ex ψ => (by refine JL_normQ _ (_ :: ψ) rfl rfl ?_; refine JL_gy ?_; refine JL_idx i sl32 rfl rfl rfl om rdg lno ?_; exact vz rfl)), OblS_V (fun vals ex ψ => (by refine JL_normQ _ (_ :: ψ) rfl rfl ?_; refine JL_gy ?_; refine JL_loadE ty3 rfl rdg (i64s_get om) ?_; exact vz rfl)), oG, oG, OblS_V (fun vals ex ψ => (by refine JL_gy ?_; refine JL_sub_to rfl rfl i6o ?_; exact vz rfl)), OblS_V (fun vals ex ψ => (by refine JL_normQ _ (_ :: ψ) rfl rfl ?_; refine JL_gy ?_; refine JL_idx (i - 1) sl32 rfl rfl om om rdg lno ?_; exact vz rfl)), OblS_V (fun vals ex ψ => (by refine JL_normQ _ (_ :: ψ) rfl rfl ?_; refine JL_gy ?_; refine JL_loadE ty3 rfl rdg (i64s_get om) ?_; exact vz rfl)), trivial⟩ kr (fun vals bs => ?_)
   refine JL_normL [_, _, _] ⟨44, [(14, _), (15, _), (16, _), (17, _), (18, _), (19, _), (20, _), (21, _), (22, _), (23, _), (24, _), (25, _), (26, _), (27, _), (28, _), (29, _), (30, _), (31, _), (32, _), (33, _), (34, _), (35, _), (36, _), (37, _), (38, _), (39, _), (40, _)], _⟩ [] [_] rfl rfl rfl rfl ?_; refine JL_gy ?_; refine JL_leq rfl rfl ?_; rw [decide_eq_false (p := L.getD i 0 ≤ L.getD (i - 1) 0) om]; refine JL_gy ?_; refine JL_pick_t rfl rfl ?_; refine JL_pick_f rfl rfl ?_; refine JL_du 44 [] [_] ?_; refine JC_false rfl ?_; refine JC_skip ?_; refine JE_block_normal ?_; refine JE_then ?_; refine JC_region ?_; refine JL_m ?_; refine JL_add_to rfl rfl i6o ?_; refine JL_a ?_; refine JL_nv 44 ?_; refine JE_nextS (i + 1) kr ?_ ?_ kr ?_
   · exact ⟨by omega, ascR_step hj (by unfold okA; omega)⟩
   · first | omega | (dsimp only; omega)
   · exact subset_app subset_nil ss0
 ·refine JL_dv 44 ?_; refine JC_false rfl ?_; refine JC_exit ?_; refine JE_then_exit ?_; refine JE_nextS_exit ?_; refine JE_block_exit ?_; refine JE_then ?_; refine JC_sr ?_; refine JL_a ?_; refine JL_dv 44 ?_; refine JC_ret ?_; refine JE_ret (vs := [_]) [] Tryz.results34 ⟨rfl, rfl⟩ ?_ ?_
  · rw [decide_eq_true (p := ascR L n) (fun j hj2 => hj j om)]; exact ⟨rfl, rfl⟩
  · exact all_nil

set_option maxHeartbeats 1000000 in
theorem rnew_con {n : Nat} (h1 : 1 ≤ n) (h16 : n ≤ 16) :
    ConO Tryz.prog 11 [.int .i64 (n : Nat)] [] []
      (fun v rout φo => ∃ (b : Nat) (t : AT), v = .tuple #[.pointer (some ⟨b, 0, none⟩), .int .i64 0] ∧ rout = [box b 69 [.int .i64 (n : Nat), .int .i64 (t).kind, .int .i64 ((t).col : Nat), .slice (t).kad (t).kids.length (t).kcap]] ∧ φo = [vN t] ∧ Fit t ∧ er t = newT n) := by
 refine ConO_of Tryz.func11 rfl 27 (_ :: rp 26) rfl rfl ?_; intro w0 p0 p1; refine JC_st [] [_, _] ?_; refine JC_sr ?_; refine JL_a ?_; refine JL_a ?_; refine JL_dv 27 ?_; refine JC_seq ?_; refine JC_sr ?_; refine JL_m ?_; refine JL_lss rfl rfl ?_; refine JL_split (fun h7 => ?_) (fun h7 => ?_)
 · exact absurd h7 om
 ·refine JL_m ?_; refine JL_gy ?_; refine JL_m ?_; refine JL_gy ?_; refine JL_gtr rfl rfl ?_; refine JL_split (fun h10 => ?_) (fun h10 => ?_)
  · exact absurd h10 om
  ·refine JL_pick_f rfl rfl ?_; refine JL_dv 27 ?_; refine JC_false rfl ?_; refine JC_skip ?_; refine JE_then ?_; refine JC_sr ?_; refine JL_a ?_; refine JL_dv 27 ?_; refine JC_seq ?_; refine JC_sr ?_; refine JL_a ?_; refine JL_dv 27 ?_; refine JC_block ?_; refine JC_nNil ?_; refine JC_addNil 66 3 ?_; refine JC_nw [osl _ _ _ _ _ _] [_, _, _] ?_; refine JC_loopS ((Nat) × (List AT) × (Option Addr) × (Nat)) (fun (i, l, ad3, c3) => i ≤ n ∧ l.map er = (List.range i).map .leaf ∧ (∀ x ∈ l, Fit x) ∧ l.length = i ∧ l.length ≤ c3) (fun (i, l, ad3, c3) => n - i) (fun u (i, l, ad3, c3) => (rn 4 (some (.slice ad3 l.length c3) :: some (.int .i64 (i : Nat)) :: rn 6 (sc u 12 10 [])))) (fun (i, l, ad3, c3) => [some (osl ad3 l.length c3 66 3 (ncL l))]) (fun (i, l, ad3, c3) => [(true, vNs l)]) (0, [], none, 0) kr ?_ kr ?_ ?_
   · exact ⟨Nat.zero_le _, rfl, (fun _ h => by cases h), rfl, Nat.le_refl _⟩
   · exact (subset_cons am subset_nil)
   intro u i hC; obtain ⟨i, l, ad3, c3⟩ := i; obtain ⟨hi, hl, hF, hlen, hc3⟩ := hC; refine JC_nm 27 [osl _ _ _ _ _ _] [_, _, _, _] ?_; refine JC_seq ?_; refine JC_sr ?_; refine JL_m ?_; refine JL_m ?_; refine JL_lss rfl rfl ?_; refine JL_split (fun h14 => ?_) (fun h14 => ?_)
   ·refine JL_dv 27 ?_; refine JC_true rfl ?_; refine JC_skip ?_; refine JE_then ?_; refine JC_seq ?_; refine JC_block ?_; refine JC_region ?_; refine JL_m ?_; refine JL_m ?_; refine JL_build (cs := [_, _, _]) [(1, [_])] st66 ⟨⟨rfl, _, rfl, rfl⟩, rfl⟩ rfl ?_; refine JL_buildN (cs0 := [.int .i64 0, .int .i64 0, .slice none 0 0]) (cs := [_, _, _]) [(0, [_, _, _])] sl64 kr ⟨⟨rfl, _, rfl, rfl⟩, rfl⟩ rfl rfl rfl rfl (fun g20 => ?_); refine JL_norm _ [osl _ _ _ _ _ _, osl _ _ _ _ _ (ncL [(nw i false none 0 [])])] [_, _, _, _] rfl rfl rfl ?_; refine JL_nLeaf (n := i) ?_; refine JL_append (news := ncL [(nw i false none 0 [])]) 0 sl64 rfl (by decide) rfl rfl rfl (by rw [ncL_len]; rfl) (Reads.own 1 rfl) (ncL_one _) om om (fun ad21 cap21 hc21 => ?_); refine JL_dropAt 1 ?_; refine JL_norm _ [osl _ _ _ _ _ _] [_, _, _, _, _] rfl rfl rfl ?_; rw [ncL_app, show (l).length + 1 = (l ++ [(nw i false none 0 [])]).length from (by rw [List.length_append]; rfl)]; rw [show (l).length + 1 = (l ++ [(nw i false none 0 [])]).length from (by rw [List.length_append]; rfl)] at hc21; refine JL_nSnoc (f := true) (l := l) (nw i false none 0 []) am am ?_
    refine JL_a ?_; refine JL_nu 27 [osl _ _ _ _ _ _] [_, _, _, _, _, _] ?_; refine JE_block_normal ?_; refine JE_then ?_; refine JC_region ?_; refine JL_m ?_; refine JL_add_to rfl rfl i6o ?_; refine JL_a ?_; refine JL_nv 27 ?_; refine JE_nextS (i + 1, l ++ [(nw i false none 0 [])], ad21, cap21) kr ?_ ?_ kr ?_
    · exact ⟨by omega, leafs_succ hl rfl, fun x hx => (List.mem_append.1 hx).elim (hF x) (fun h => by rw [List.mem_singleton.1 h]; exact .mk _ _ _ _ _ _ (Nat.le_refl _) (Nat.zero_le _) (fun h => absurd rfl h) (fun h => by cases h) (fun _ h => by cases h)), by rw [List.length_append, hlen]; rfl, hc21.1⟩
    · first | omega | (dsimp only; omega)
    · exact subset_app (subset_cons am subset_nil) (ssS (ssS (ssS ss0)))
   ·refine JL_dv 27 ?_; refine JC_false rfl ?_; refine JC_exit ?_; refine JE_then_exit ?_; refine JE_nextS_exit ?_; refine JE_block_exit ?_; refine JE_then ?_; refine JC_sr ?_; refine JL_m ?_; refine JL_m ?_; refine JL_give 0 rfl ?_; refine JL_norm _ [] [_, _, _, _, _] rfl rfl rfl ?_
    have hin : i = n := by omega
    subst hin; refine JL_callA' true (AsksA.cons (holdsA_of_mem am) (AsksA.cons (holdsA_of_mem am) AsksA.nil)) (rgroup_con hc3 om om hF) rfl ca36 ⟨rfl, rfl⟩ ?_; rintro _ _ ⟨t24, rfl, rfl, hf24, he24⟩; refine JL_build (cs := [_, _, _, _]) [(0, [_]), (1, [_, _, _])] st69 ⟨⟨rfl, _, rfl, rfl⟩, ⟨rfl, _, rfl, rfl⟩, rfl⟩ rfl ?_; refine JL_box rfl rfl (fun b26 => ?_); refine JL_a ?_; refine JL_a ?_; refine JL_du 27 [box _ _ [_, _, _, _]] [_, _, _, _, _, _] ?_; refine JC_ret ?_; refine JE_retO (vs := [_, _]) [vN t24] Tryz.results11 ⟨rfl, rfl, rfl⟩ ?_ ?_ am am
    · exact ⟨b26, t24, rfl, rfl, rfl, hf24, newT_er hl he24⟩
    · exact (all_cons am all_nil)

theorem rnewX_con {n : Int} (h : n < 1 ∨ 16 < n) :
    ConF Tryz.prog 11 [.int .i64 n] []
      (fun v φo => v = .tuple #[.pointer none, .int .i64 2] ∧ φo = []) := by
 refine ConF_of Tryz.func11 rfl 27 (_ :: rp 26) rfl rfl ?_; intro w0; refine JC_st [] [] ?_; refine JC_sr ?_; refine JL_a ?_; refine JL_a ?_; refine JL_dv 27 ?_; refine JC_seq ?_; refine JC_sr ?_; refine JL_m ?_; refine JL_lss rfl rfl ?_; refine JL_split (fun h7 => ?_) (fun h7 => ?_)
 ·refine JL_m ?_; refine JL_gn ?_; refine JL_gn ?_; refine JL_pick_t rfl rfl ?_; refine JL_dv 27 ?_; refine JC_true rfl ?_; refine JC_sr ?_; refine JL_a ?_; refine JL_a ?_; refine JL_dv 27 ?_; refine JC_ret ?_; refine JE_then_ret ?_; refine JE_ret (vs := [_, _]) [] Tryz.results11 ⟨rfl, rfl, rfl⟩ ?_ ?_
  · exact ⟨rfl, rfl⟩
  · exact all_nil
 ·refine JL_m ?_; refine JL_gy ?_; refine JL_m ?_; refine JL_gy ?_; refine JL_gtr rfl rfl ?_; refine JL_split (fun h10 => ?_) (fun h10 => ?_)
  ·refine JL_pick_f rfl rfl ?_; refine JL_dv 27 ?_; refine JC_true rfl ?_; refine JC_sr ?_; refine JL_a ?_; refine JL_a ?_; refine JL_dv 27 ?_; refine JC_ret ?_; refine JE_then_ret ?_; refine JE_ret (vs := [_, _]) [] Tryz.results11 ⟨rfl, rfl, rfl⟩ ?_ ?_
   · exact ⟨rfl, rfl⟩
   · exact all_nil
  · exact absurd h om

set_option maxHeartbeats 2000000 in
theorem rtred_con {X Y Z : Res} {b n cl : Nat} {t : AT} {al : Option Addr} {L : List Int} (hn : n ≤ 16) (hf : Fit t) (ht : Tn n (er t)) (hL : L.length ≤ 900) :
    ConO Tryz.prog 13 [.pointer (some ⟨b, 0, none⟩), .slice al L.length cl] [box b 69 [.int .i64 (n : Nat), .int .i64 (t).kind, .int .i64 ((t).col : Nat), .slice (t).kad (t).kids.length (t).kcap], X, Y, Z] [vN t, vCells al (i64s L)]
      (fun v rout φo => ∃ t' : AT, v = .int .i64 (redE n (er t) L) ∧ rout = [box b 69 [.int .i64 (n : Nat), .int .i64 (t').kind, .int .i64 ((t').col : Nat), .slice (t').kad (t').kids.length (t').kcap], X, Y, Z] ∧ φo = [vN t'] ∧ Fit t' ∧ er t' = redT n (er t) L) := by
 have hlv := ht.lvs_len
 refine ConO_of Tryz.func13 rfl 34 (_ :: _ :: rp 32) rfl rfl ?_; intro w0 p0 p1; refine JC_st [box _ _ [_, _, _, _], _, _, _] [_, _, _, _] ?_; refine JC_sr ?_; refine JL_a ?_; refine JL_dv 34 ?_; refine JC_seq ?_; refine JC_sr ?_; refine JL_m ?_; refine JL_eqlPtr pt29 rfl rfl ?_; refine JL_splitV (fun h8 => ?_) (fun h8 => ?_)
 · exact absurd h8 Bool.false_ne_true
 ·refine JL_m ?_; refine JL_gy ?_; refine JL_m ?_; refine JL_gy ?_; refine JL_m ?_; refine JL_gy ?_; refine JL_nilCheck rfl ?_; refine JL_gy ?_; refine JL_fieldAddr fo69_0 rfl ?_; refine JL_gy ?_; refine JL_load 0 ty3 rfl rfl rfl ?_; refine JL_gy ?_; refine JL_sub_to rfl rfl i6o ?_; refine JL_gy ?_; refine JL_callF' (Asks.cons (holds_of_mem am) Asks.nil) (rasc_con om) rfl ca34 ⟨rfl, rfl, rfl, rfl⟩ ?_; rintro _ _ ⟨rfl, rfl⟩; refine JL_split (fun h16 => ?_) (fun h16 => ?_)
  ·refine JL_gy ?_; refine JL_not rfl ?_; rw [Bool.not_true]; refine JL_pick_f rfl rfl ?_; refine JL_du 34 [box _ _ [_, _, _, _], _, _, _] [_, _, _, _] ?_; refine JC_false rfl ?_; refine JC_skip ?_; refine JE_then ?_; refine JC_sr ?_; refine JL_m ?_; refine JL_nilCheck rfl ?_; refine JL_fieldAddr fo69_1 rfl ?_; refine JL_loadA (vs := [_, _, _]) 0 ty66 rfl rfl ⟨rfl, rfl, rfl, trivial⟩ ?_; refine JL_m ?_; refine JL_callA' true (AsksA.cons (holdsA_of_mem am) (AsksA.cons (holdsA_of_mem am) AsksA.nil)) (rred_con om t hf om) rfl ca40 ⟨rfl, rfl, rfl⟩ ?_; rintro _ _ ⟨t25, b25, rfl, rfl, hr25⟩; refine JL_m ?_; refine JL_extract (v := nval t25) rfl rfl ?_; refine JL_extract (v := .bool b25) rfl rfl ?_; refine JL_alloc z66 (fun b5 => ?_); refine JL_store (vs := [_, _, _]) 4 ty66 rfl rfl rfl ao3 rfl bleq ?_; refine JL_a ?_; refine JL_du 34 [box _ _ [_, _, _, _], _, _, _, box _ _ [_, _, _]] [_, _, _, _, _] ?_; refine JC_seq ?_; refine JC_sr ?_; refine JL_m ?_; refine JL_not rfl ?_; refine JL_dv 34 ?_
   refine JC_cond rfl (fun hb => ?_) (fun hb => ?_)
   ·have h29 := hb
    refine JC_sr ?_; refine JL_a ?_; refine JL_dv 34 ?_; refine JC_ret ?_; refine JE_then_ret ?_; obtain rfl : b25 = false := by cases b25 with | false => rfl | true => exact absurd h29 (by decide)
    obtain ⟨hE, hT⟩ := refE_no ht h16 hr25; refine JE_dropAt 4 ?_; refine JE_norm _ [box _ _ [_, _, _, _], _, _, _] [_, _, _, _, _] rfl rfl rfl ?_; refine JE_retO (vs := [_]) [vN t] Tryz.results13 ⟨rfl, rfl⟩ ?_ ?_ am am
    · exact ⟨t, by rw [hE]; rfl, rfl, rfl, hf, hT.symm⟩
    · exact (all_cons am all_nil)
   ·have h29 := hb
    refine JC_skip ?_; refine JE_then ?_; refine JC_sr ?_; refine JL_m ?_; refine JL_loadA (vs := [_, _, _]) 4 ty66 rfl rfl ⟨rfl, rfl, rfl, trivial⟩ ?_; refine JL_nilCheck rfl ?_; refine JL_fieldAddr fo69_1 rfl ?_; refine JL_store (vs := [_, _, _]) 0 ty66 rfl rfl rfl ao3 rfl bleq ?_; refine JL_du 34 [box _ _ [_, _, _, _], _, _, _, box _ _ [_, _, _]] [_, _, _, _, _] ?_; refine JC_sr ?_; refine JL_a ?_; refine JL_dv 34 ?_; refine JC_ret ?_; obtain rfl : b25 = true := by cases b25 with | true => rfl | false => exact absurd h29 (by decide)
    obtain ⟨hE, hT, hF⟩ := refE_yes ht h16 hr25; refine JE_dropAt 4 ?_; refine JE_norm _ [box _ _ [_, _, _, _], _, _, _] [_, _, _, _, _] rfl rfl rfl ?_; refine JE_retO (vs := [_]) [vN t25] Tryz.results13 ⟨rfl, rfl⟩ ?_ ?_ am am
    · exact ⟨t25, by rw [hE]; rfl, rfl, rfl, hF, hT.symm⟩
    · exact (all_cons am all_nil)
  ·refine JL_gy ?_; refine JL_not rfl ?_; rw [Bool.not_false]; refine JL_pick_f rfl rfl ?_; refine JL_du 34 [box _ _ [_, _, _, _], _, _, _] [_, _, _, _] ?_; refine JC_true rfl ?_; refine JC_sr ?_; refine JL_a ?_; refine JL_dv 34 ?_; refine JC_ret ?_; refine JE_then_ret ?_; refine JE_retO (vs := [_]) [vN t] Tryz.results13 ⟨rfl, rfl⟩ ?_ ?_ am am
   · exact ⟨t, by rw [(red_bad (t := er t) (W := []) h16).1]; rfl, rfl, rfl, hf, (red_bad (t := er t) (W := []) h16).2.1.symm⟩
   · exact (all_cons am all_nil)

end Go.Fw.K
