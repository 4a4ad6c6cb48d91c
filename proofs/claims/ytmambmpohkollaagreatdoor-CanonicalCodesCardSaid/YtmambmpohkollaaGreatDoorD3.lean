/- Walks through functions of the given program: each meets its contract. (Printed by a program of this repo.) -/
import Derived.Test.YtmambmpohkollaaGreatDoorD2
import Derived.Test.YtmambmpohkollaaGreatDoorCnTY
import Derived.Test.YtmambmpohkollaaGreatDoorProg
namespace Go.Fw.D3
open Go Go.RowKit Go.Proofs Go.Nat9 Go.Fw
attribute [local irreducible] JC JL JE
theorem ca46 : callable Tryz.prog 46 = true := by kernel_rfl
theorem ca66 : callable Tryz.prog 66 = true := by kernel_rfl
theorem fo25_0 : fOf Tryz.prog 25 0 = some 0 := by kernel_rfl
theorem fo25_1 : fOf Tryz.prog 25 1 = some 1 := by kernel_rfl
theorem mixed : Tryz.prog.follows .mixedOrders = true := by kernel_rfl
theorem sl22 : slOf Tryz.prog 22 = some (3, 1, 8, [.int .i64 0]) := by kernel_rfl
theorem sl41 : slOf Tryz.prog 41 = some (22, 1, 24, [.slice none 0 0]) := by kernel_rfl
theorem ty22 : tyOf Tryz.prog 22 = some (false, 1) := by kernel_rfl
theorem ty25 : tyOf Tryz.prog 25 = some (true, 3) := by kernel_rfl
theorem ty3 : tyOf Tryz.prog 3 = some (false, 1) := by kernel_rfl
end Go.Fw.D3
namespace Go.Fw.K
open Go Go.RowKit Go.Proofs Go.Nat9 Go.Fw Go.Fw.D3
attribute [local irreducible] JC JL JE

open Go.Fw.Cn
theorem rchk_con {a1 a2 a3 : Option Addr} {c1 c2 c3 : Nat} {O R : List Int} {K : List Cn.Lk} (hO : O.length ≤ 1000) (hR : R.length ≤ 1000) (hK : K.length ≤ 1000) :
    ConF Tryz.prog 38 [.agg #[.slice a1 O.length c1, .slice a2 R.length c2, .slice a3 K.length c3]] [vCells a1 (i64s O), vCells a2 (i64s R), vCells a3 (lks K)]
      (fun v φo => v = .int .i64 (errG O R K) ∧ φo = []) := by
 refine ConF_of Tryz.func38 rfl 16 (_ :: rp 15) rfl rfl ?_; intro w0; refine JC_st [] [_, _, _] ?_; refine JC_sr ?_; refine JL_box rfl rfl (fun b1 => ?_); refine JL_a ?_; refine JL_du 16 [box _ _ [_, _, _]] [_, _, _] ?_; refine JC_seq ?_; refine JC_sr ?_; refine JL_loadA (vs := [_, _, _]) 0 ty25 rfl rfl ⟨rfl, rfl, rfl, trivial⟩ ?_; refine JL_callF' (Asks.cons (holds_of_mem am) (Asks.cons (holds_of_mem am) (Asks.cons (holds_of_mem am) Asks.nil))) (rval_con hO hR hK) rfl ca46 ⟨rfl, rfl⟩ ?_; rintro _ _ ⟨rfl, rfl⟩; refine JL_split (fun h4 => ?_) (fun h4 => ?_)
 ·refine JL_not rfl ?_; rw [Bool.not_true]; refine JL_du 16 [box _ _ [_, _, _]] [_, _, _] ?_; refine JC_false rfl ?_; refine JC_skip ?_; refine JE_then ?_; refine JC_seq ?_; refine JC_sr ?_; refine JL_fieldAddr fo25_0 rfl ?_; refine JL_load 0 ty22 rfl rfl rfl ?_; refine JL_len sl22 rfl ?_; refine JL_gtr rfl rfl ?_; refine JL_split (fun h9 => ?_) (fun h9 => ?_)
  ·refine JL_m ?_; refine JL_gn ?_; refine JL_gn ?_; refine JL_gn ?_; refine JL_gn ?_; refine JL_pick_t rfl rfl ?_; refine JL_dv 16 ?_; refine JC_true rfl ?_; refine JC_sr ?_; refine JL_a ?_; refine JL_dv 16 ?_; refine JC_ret ?_; refine JE_then_ret ?_; refine JE_ret (vs := [_]) [] Tryz.results38 ⟨rfl, rfl⟩ ?_ ?_
   · rw [errG_6 h4 om]; exact ⟨rfl, rfl⟩
   · exact all_nil
  ·refine JL_m ?_; refine JL_gy ?_; refine JL_fieldAddr fo25_1 rfl ?_; refine JL_gy ?_; refine JL_load 0 ty22 rfl rfl rfl ?_; refine JL_gy ?_; refine JL_len sl22 rfl ?_; refine JL_gy ?_; refine JL_gtr rfl rfl ?_; refine JL_split (fun h14 => ?_) (fun h14 => ?_)
   ·refine JL_pick_f rfl rfl ?_; refine JL_dv 16 ?_; refine JC_true rfl ?_; refine JC_sr ?_; refine JL_a ?_; refine JL_dv 16 ?_; refine JC_ret ?_; refine JE_then_ret ?_; refine JE_ret (vs := [_]) [] Tryz.results38 ⟨rfl, rfl⟩ ?_ ?_
    · rw [errG_6 h4 om]; exact ⟨rfl, rfl⟩
    · exact all_nil
   ·refine JL_pick_f rfl rfl ?_; refine JL_dv 16 ?_; refine JC_false rfl ?_; refine JC_skip ?_; refine JE_then ?_; refine JC_sr ?_; refine JL_a ?_; refine JL_dv 16 ?_; refine JC_ret ?_; refine JE_ret (vs := [_]) [] Tryz.results38 ⟨rfl, rfl⟩ ?_ ?_
    · rw [errG_ok h4 om]; exact ⟨rfl, rfl⟩
    · exact all_nil
 ·refine JL_not rfl ?_; rw [Bool.not_false]; refine JL_du 16 [box _ _ [_, _, _]] [_, _, _] ?_; refine JC_true rfl ?_; refine JC_sr ?_; refine JL_a ?_; refine JL_dv 16 ?_; refine JC_ret ?_; refine JE_then_ret ?_; refine JE_ret (vs := [_]) [] Tryz.results38 ⟨rfl, rfl⟩ ?_ ?_
  · rw [errG_1 h4]; exact ⟨rfl, rfl⟩
  · exact all_nil

set_option maxHeartbeats 4000000 in
theorem ords_con {n : Nat} (hn : n ≤ 6) :
    ConF Tryz.prog 39 [.int .i64 (n : Nat)] []
      (fun v φo => ∃ (ad : Option Addr) (c : Nat) (D : List Rw), v = .slice ad D.length c ∧ φo = [vCells ad (rws D), vRws D] ∧ Rls D = (ordF n n).map zs) := by
 refine ConF_of Tryz.func39 rfl 46 (_ :: rp 45) rfl rfl ?_; intro w0; refine JC_st [] [] ?_; refine JC_sr ?_; refine JL_a ?_; refine JL_dv 46 ?_; refine JC_sr ?_; refine JL_build1 sl41 rfl rfl (fun g8 => ?_); refine JL_norm _ [osl _ _ _ _ _ (rws [dR])] [] rfl rfl rfl ?_; refine JL_a ?_; refine JL_du 46 [osl _ _ _ _ _ _] [] ?_; refine JC_seq ?_; refine JC_seq ?_; refine JC_give 0 rfl ?_; refine JC_nw [] [_] ?_; refine JC_region ?_; refine JL_a ?_; refine JL_dv 46 ?_; refine JC_block ?_; refine JC_addView (f := true) (p := vRws [dR]) (fun _ _ r hr => by rw [List.mem_singleton.1 hr]; exact fun j u hj => by cases hj) ?_; refine JC_loopS ((Nat) × (List Rw) × (Option Addr) × (Nat)) (fun (k, D, ado, co) => k ≤ n ∧ Rls D = (ordF n k).map zs) (fun (k, D, ado, co) => n - k) (fun u (k, D, ado, co) => (rn 3 (some (.slice ado D.length co) :: some (.int .i64 (k : Nat)) :: sc u 5 3 (none :: sc u 9 36 [])))) (fun (k, D, ado, co) => []) (fun (k, D, ado, co) => [(true, vCells ado (rws D)), (true, vRws D)]) (0, [dR], (some ⟨g8, 0, none⟩), 1) kr ?_ kr ?_ ?_
 · exact ⟨Nat.zero_le _, rfl⟩
 · exact (subset_cons am (subset_cons am subset_nil))
 intro u i hC; obtain ⟨k, D, ado, co⟩ := i; obtain ⟨hk, hD⟩ := hC; refine JC_nm 46 [] [_, _, _, _] ?_
 have hDl := rowsZ_len hD
 have hDb := ordF_le hn hk
 refine JC_seq ?_; refine JC_sr ?_; refine JL_m ?_; refine JL_m ?_; refine JL_lss rfl rfl ?_; refine JL_split (fun h11 => ?_) (fun h11 => ?_)
 ·refine JL_dv 46 ?_; refine JC_true rfl ?_; refine JC_skip ?_; refine JE_then ?_; refine JC_seq ?_; refine JC_block ?_; refine JC_sr ?_; refine JL_a ?_; refine JL_dv 46 ?_; refine JC_seq ?_; refine JC_sr ?_; refine JL_a ?_; refine JL_dv 46 ?_; refine JC_block ?_; refine JC_addView (f := true) (p := vRws []) (fun _ _ r hr => by cases hr) ?_; refine JC_addNil 22 1 ?_; refine JC_nw [osl _ _ _ _ _ _] [_, _, _, _, _] ?_; refine JC_loopS ((Nat) × (List Rw) × (Option Addr) × (Nat)) (fun (i, F, adn, cn) => i ≤ D.length ∧ Rls F = (oTo n k i 0).map zs) (fun (i, F, adn, cn) => D.length - i) (fun u (i, F, adn, cn) => (rn 5 (some (.slice adn F.length cn) :: some (.int .i64 (i : Nat)) :: some (u 7) :: rn 6 (sc u 14 30 [])))) (fun (i, F, adn, cn) => [some (osl adn F.length cn 22 1 (rws F))]) (fun (i, F, adn, cn) => [(true, vRws F)]) (0, [], none, 0) kr ?_ kr ?_ ?_
  · exact ⟨Nat.zero_le _, rfl⟩
  · exact (subset_cons am subset_nil)
  intro u i hC; obtain ⟨i, F, adn, cn⟩ := i; obtain ⟨hi, hF⟩ := hC; refine JC_nm 46 [osl _ _ _ _ _ _] [_, _, _, _, _, _] ?_; refine JC_seq ?_; refine JC_sr ?_; refine JL_m ?_; refine JL_m ?_; refine JL_len sl41 rfl ?_; refine JL_lss rfl rfl ?_; refine JL_split (fun h17 => ?_) (fun h17 => ?_)
  ·refine JL_dv 46 ?_; refine JC_true rfl ?_; refine JC_skip ?_; refine JE_then ?_; refine JC_seq ?_; refine JC_block ?_; refine JC_sr ?_; refine JL_a ?_; refine JL_dv 46 ?_; refine JC_block ?_; refine JC_loopS ((Nat) × (List Rw) × (Option Addr) × (Nat)) (fun (v, E, ade, ce) => v ≤ n ∧ Rls E = (oTo n k i v).map zs) (fun (v, E, ade, ce) => n - v) (fun u (v, E, ade, ce) => (rn 5 (some (.slice ade E.length ce) :: none :: some (.int .i64 (v : Nat)) :: rn 12 (sc u 20 24 [])))) (fun (v, E, ade, ce) => [some (osl ade E.length ce 22 1 (rws E))]) (fun (v, E, ade, ce) => [(true, vRws E)]) (0, F, adn, cn) kr ?_ kr ?_ ?_
   · exact ⟨Nat.zero_le _, hF⟩
   · exact (subset_cons am subset_nil)
   intro u i hC; obtain ⟨v, E, ade, ce⟩ := i; obtain ⟨hv, hE⟩ := hC; refine JC_nm 46 [osl _ _ _ _ _ _] [_, _, _, _, _, _, _] ?_
   have hEl := rowsZ_len hE
   have hEb := oTo_le (i := i) hn hk hv
   refine JC_seq ?_; refine JC_sr ?_; refine JL_m ?_; refine JL_m ?_; refine JL_lss rfl rfl ?_; refine JL_split (fun h22 => ?_) (fun h22 => ?_)
   ·refine JL_dv 46 ?_; refine JC_true rfl ?_; refine JC_skip ?_; refine JE_then ?_; refine JC_seq ?_; refine JC_block ?_; refine JC_seq ?_
    have hrm := rw_mem (l := D) (i := i) om
    have hL := rowsZ hD (show i < D.length by omega)
    have hPl := ord_len (n := n) (k := k) (i := i) om
    have hzl := zs_length ((ordF n k).getD i [])
    refine JC_rwGet (f := true) (D.getD i dR) am hrm ?_; rw [hL]; refine JC_region ?_; refine JL_m ?_; refine JL_m ?_; refine JL_idx i sl41 rfl rfl rfl om rdg (by rw [rws_length]; omega) ?_; refine JL_loadE ty22 rfl rdg (rwsZ_get hD om) ?_; refine JL_m ?_; refine JL_callF' (Asks.cons (by first | exact holds_of_mem am | (exact holds_of_own 0 rfl)) Asks.nil) (bhas_con (L := zs ((ordF n k).getD i [])) om) rfl ca66 ⟨rfl, rfl, rfl⟩ ?_; rintro _ _ ⟨rfl, rfl⟩; refine JL_split (fun h30 => ?_) (fun h30 => ?_)
    ·refine JL_not rfl ?_; rw [Bool.not_true]; refine JL_du 46 [osl _ _ _ _ _ _] [_, _, _, _, _, _, _, _] ?_; refine JC_false rfl ?_; refine JC_skip ?_; refine JE_block_normal ?_; refine JE_then ?_; refine JC_region ?_; refine JL_m ?_; refine JL_add_to rfl rfl i6o ?_; refine JL_a ?_; refine JL_nv 46 ?_; refine JE_nextS (v + 1, E, ade, ce) kr ?_ ?_ kr ?_
     · exact ⟨by omega, by rw [hE, oTo_no (zs_mem.1 h30)]⟩
     · first | omega | (dsimp only; omega)
     · exact subset_app (subset_cons am subset_nil) (ssS (ssS ss0))
    ·refine JL_not rfl ?_; rw [Bool.not_false]; refine JL_du 46 [osl _ _ _ _ _ _] [_, _, _, _, _, _, _, _] ?_; refine JC_true rfl ?_; refine JC_region ?_; refine JL_m ?_; refine JL_build0 sl22 (fun g33 => ?_); refine JL_norm _ [osl _ _ _ _ _ _, osl _ _ _ _ _ (i64s ([]))] [_, _, _, _, _, _, _, _] rfl rfl rfl ?_; refine JL_m ?_; refine JL_m ?_; refine JL_idx i sl41 rfl rfl rfl om rdg (by rw [rws_length]; omega) ?_; refine JL_loadE ty22 rfl rdg (rwsZ_get hD om) ?_; refine JL_appendIV (L := []) (M := zs ((ordF n k).getD i [])) 1 sl22 rfl rfl rfl rdg (by first | rfl | assumption | (simp only [lenS]; omega)) om om (fun ad38 cap38 hc38 => ?_); rw [List.nil_append, show 0 + (zs ((ordF n k).getD i [])).length = (zs ((ordF n k).getD i [])).length from Nat.zero_add _]; refine JL_m ?_; refine JL_build1 sl22 rfl rfl (fun g40 => ?_)
     refine JL_appendI (L := zs ((ordF n k).getD i [])) 1 2 sl22 rfl rfl rfl rfl om om (fun ad41 cap41 hc41 => ?_); refine JL_dropAt 2 ?_; refine JL_norm _ [osl _ _ _ _ _ _, osl _ _ _ _ _ _] [_, _, _, _, _, _, _, _] rfl rfl rfl ?_; rw [← zs_snoc, show (zs ((ordF n k).getD i [])).length + 1 = (zs (((ordF n k).getD i []) ++ [v])).length from (by rw [zs_snoc, List.length_append]; rfl)]; refine JL_give 1 rfl ?_; refine JL_norm _ [osl _ _ _ _ _ _] [_, _, _, _, _, _, _, _, _] rfl rfl rfl ?_; refine JL_build1 (v := .slice ad41 (zs (((ordF n k).getD i []) ++ [v])).length cap41) sl41 rfl rfl (fun g42 => ?_); refine JL_giveLast ?_; rw [show [Value.slice ad41 (zs (((ordF n k).getD i []) ++ [v])).length cap41] = rws [(⟨ad41, cap41, zs (((ordF n k).getD i []) ++ [v])⟩ : Rw)] from rfl]; refine JL_append (news := rws [(⟨ad41, cap41, zs (((ordF n k).getD i []) ++ [v])⟩ : Rw)]) 0 sl41 rfl (by decide) rfl rfl rfl (by rw [rws_length]; rfl) (Reads.view am) (rws_one _) om om (fun ad43 cap43 hc43 => ?_); refine JL_norm _ [osl _ _ _ _ _ _] [_, _, _, _, _, _, _, _, _, _] rfl rfl rfl ?_
     rw [rws_app, show E.length + 1 = (E ++ [(⟨ad41, cap41, zs (((ordF n k).getD i []) ++ [v])⟩ : Rw)]).length from (by rw [List.length_append]; rfl)]; refine JL_addView (f := true) (p := vRws (E ++ [(⟨ad41, cap41, zs (((ordF n k).getD i []) ++ [v])⟩ : Rw)])) (fun _ s x hx => (List.mem_append.1 hx).elim (fun h => s.views _ (show (true, vRws E) ∈ _ from am) x h) (fun h => by rw [List.mem_singleton.1 h]; exact s.views _ (show (true, vCells ad41 (i64s (zs (((ordF n k).getD i []) ++ [v])))) ∈ _ from am))) ?_; refine JL_a ?_; refine JL_nu 46 [osl _ _ _ _ _ _] [_, _, _, _, _, _, _, _, _, _, _] ?_; refine JE_block_normal ?_; refine JE_then ?_; refine JC_region ?_; refine JL_m ?_; refine JL_add_to rfl rfl i6o ?_; refine JL_a ?_; refine JL_nv 46 ?_; refine JE_nextS (v + 1, E ++ [(⟨ad41, cap41, zs (((ordF n k).getD i []) ++ [v])⟩ : Rw)], ad43, cap43) kr ?_ ?_ kr ?_
     · exact ⟨by omega, by rw [Rls, List.map_append, show List.map Rw.L E = (oTo n k i v).map zs from hE, oTo_yes (fun h => h30 (zs_mem.2 h)), List.map_append]; rfl⟩
     · first | omega | (dsimp only; omega)
     · exact subset_app (subset_cons am subset_nil) (ssS (ssS (ssS (ssS (ssS ss0)))))
   ·refine JL_dv 46 ?_; refine JC_false rfl ?_; refine JC_exit ?_; refine JE_then_exit ?_; refine JE_nextS_exit ?_; refine JE_block_exit ?_; refine JE_block_normal ?_; refine JE_then ?_; refine JC_region ?_; refine JL_m ?_; refine JL_add_to rfl rfl i6o ?_; refine JL_a ?_; refine JL_nv 46 ?_; refine JE_nextS (i + 1, E, ade, ce) kr ?_ ?_ kr ?_
    · exact ⟨by omega, by rw [hE, show v = n by omega, oTo_row om]⟩
    · first | omega | (dsimp only; omega)
    · exact subset_app (subset_cons am subset_nil) (ssS (ssS ss0))
  ·refine JL_dv 46 ?_; refine JC_false rfl ?_; refine JC_exit ?_; refine JE_then_exit ?_; refine JE_nextS_exit ?_; refine JE_block_exit ?_; refine JE_then ?_; refine JC_give 0 rfl ?_; refine JC_nw [] [_, _, _, _, _, _, _] ?_; refine JC_region ?_; refine JL_m ?_; refine JL_a ?_; refine JL_nv 46 ?_; refine JE_block_normal ?_; refine JE_then ?_; refine JC_region ?_; refine JL_m ?_; refine JL_add_to rfl rfl i6o ?_; refine JL_a ?_; refine JL_nv 46 ?_; refine JE_nextS (k + 1, F, adn, cn) kr ?_ ?_ kr ?_
   · exact ⟨by omega, by rw [hF, show i = (ordF n k).length by omega, oTo_all]⟩
   · first | omega | (dsimp only; omega)
   · exact subset_app (subset_cons am (subset_cons am subset_nil)) (ssS (ssS (ssS (ssS (ssS ss0)))))
 ·refine JL_dv 46 ?_; refine JC_false rfl ?_; refine JC_exit ?_; refine JE_then_exit ?_; refine JE_nextS_exit ?_; refine JE_block_exit ?_; refine JE_then ?_; refine JC_sr ?_; refine JL_m ?_; refine JL_a ?_; refine JL_dv 46 ?_; refine JC_ret ?_; refine JE_ret (vs := [_]) [vCells ado (rws D), vRws D] Tryz.results39 ⟨rfl, rfl⟩ ?_ ?_
  · exact ⟨ado, co, D, rfl, rfl, by rw [hD, show k = n by omega]⟩
  · exact (all_cons am (all_cons am all_nil))

set_option maxHeartbeats 4000000 in
theorem writ_con {adm adp adq : Option Addr} {cm cp cq w : Nat} {Mr : List Rw} {p q : List Nat} (hMr : ∀ r ∈ Mr, r.L.length = w) (hp : ∀ v ∈ p, v < Mr.length) (hq : ∀ v ∈ q, v < w) (hpl : p.length ≤ 6) (hql : q.length ≤ 6) :
    ConF Tryz.prog 40 [.slice adm Mr.length cm, .slice adp (zs p).length cp, .slice adq (zs q).length cq] [vCells adm (rws Mr), vRws Mr, vCells adp (i64s (zs p)), vCells adq (i64s (zs q))]
      (fun v φo => ∃ (ad : Option Addr) (c : Nat), v = .slice ad (wr (Rls Mr) p q).length c ∧ φo = [vCells ad (i64s (wr (Rls Mr) p q))]) := by
 have hzp := zs_length p
 have hzq := zs_length q
 refine ConF_of Tryz.func40 rfl 44 (_ :: _ :: _ :: rp 41) rfl rfl ?_; intro w0; refine JC_st [] [_, _, _, _] ?_; refine JC_sr ?_; refine JL_a ?_; refine JL_dv 44 ?_; refine JC_sr ?_; refine JL_m ?_; refine JL_len sl22 rfl ?_; refine JL_m ?_; refine JL_len sl22 rfl ?_; refine JL_buildN (cs0 := [.int .i64 0, .int .i64 0]) (cs := [_, _]) [(0, [_]), (1, [_])] sl22 kr ⟨⟨rfl, _, rfl, rfl⟩, ⟨rfl, _, rfl, rfl⟩, rfl⟩ rfl rfl rfl rfl (fun g14 => ?_); refine JL_norm _ [osl _ _ _ _ _ (i64s ([((zs p).length : Int), ((zs q).length : Int)]))] [_, _, _, _] rfl rfl rfl ?_; refine JL_a ?_; refine JL_du 44 [osl _ _ _ _ _ _] [_, _, _, _] ?_; refine JC_seq ?_; refine JC_sr ?_; refine JL_a ?_; refine JL_dv 44 ?_; refine JC_block ?_
 refine JC_loopS ((Nat) × (List Int) × (Option Addr) × (Nat)) (fun (i, L, adl, cl) => i ≤ p.length ∧ L = wrI (Rls Mr) p q i 0) (fun (i, L, adl, cl) => p.length - i) (fun u (i, L, adl, cl) => (rn 7 (some (.slice adl L.length cl) :: some (.int .i64 (i : Nat)) :: some (u 9) :: rn 5 (sc u 15 28 [])))) (fun (i, L, adl, cl) => [some (osl adl L.length cl 3 1 (i64s L))]) (fun (i, L, adl, cl) => []) (0, [((zs p).length : Int), ((zs q).length : Int)], (some ⟨g14, 0, none⟩), 2) kr ?_ kr ?_ ?_
 · exact ⟨Nat.zero_le _, by rw [wrI_zero, hzp, hzq]⟩
 · exact subset_nil
 intro u i hC; obtain ⟨i, L, adl, cl⟩ := i; obtain ⟨hi, hL⟩ := hC; refine JC_nm 44 [osl _ _ _ _ _ _] [_, _, _, _] ?_; refine JC_seq ?_; refine JC_sr ?_; refine JL_m ?_; refine JL_m ?_; refine JL_len sl22 rfl ?_; refine JL_lss rfl rfl ?_; refine JL_split (fun h18 => ?_) (fun h18 => ?_)
 ·refine JL_dv 44 ?_; refine JC_true rfl ?_; refine JC_skip ?_; refine JE_then ?_; refine JC_seq ?_; refine JC_block ?_; refine JC_sr ?_; refine JL_a ?_; refine JL_dv 44 ?_; refine JC_block ?_; refine JC_loopS ((Nat) × (List Int) × (Option Addr) × (Nat)) (fun (k, N, adk, ck) => k ≤ q.length ∧ N = wrI (Rls Mr) p q i k) (fun (k, N, adk, ck) => q.length - k) (fun u (k, N, adk, ck) => (rn 7 (some (.slice adk N.length ck) :: none :: some (.int .i64 (k : Nat)) :: rn 11 (sc u 21 22 [])))) (fun (k, N, adk, ck) => [some (osl adk N.length ck 3 1 (i64s N))]) (fun (k, N, adk, ck) => []) (0, L, adl, cl) kr ?_ kr ?_ ?_
  · exact ⟨Nat.zero_le _, hL⟩
  · exact subset_nil
  intro u i hC; obtain ⟨k, N, adk, ck⟩ := i; obtain ⟨hk, hN⟩ := hC; refine JC_nm 44 [osl _ _ _ _ _ _] [_, _, _, _] ?_
  have hNl := wrI_le (M := Rls Mr) (i := i) (k := k) hpl hql
  rw [← hN] at hNl; refine JC_seq ?_; refine JC_sr ?_; refine JL_m ?_; refine JL_m ?_; refine JL_len sl22 rfl ?_; refine JL_lss rfl rfl ?_; refine JL_split (fun h24 => ?_) (fun h24 => ?_)
  ·refine JL_dv 44 ?_; refine JC_true rfl ?_; refine JC_skip ?_; refine JE_then ?_; refine JC_seq ?_; refine JC_block ?_
   have hpi := hp _ (getN_mem (l := p) (k := i) om)
   have hqk := hq _ (getN_mem (l := q) (k := k) om)
   have hrm := rw_mem (l := Mr) (i := p.getD i 0) hpi
   have hrl := hMr _ hrm
   refine JC_rwGet (f := false) (Mr.getD (p.getD i 0) dR) am hrm ?_; refine JC_drawT mixed 15 [spV 27 [] _, spV 28 [] _, spV 29 [] _, spV 30 [] _, spV 31 [2, 3] _, spV 32 [4] _, spV 33 [1, 5] _, spV 34 [6] _, spV 35 [] _, spV 36 [] _, spV 37 [8, 9] _, spV 38 [10] _, spV 39 [7, 11] _, spV 40 [12] _, spC 41 [13] (fun v φo => ∃ g : Nat, v = .slice (some ⟨g, 0, none⟩) 1 1 ∧ φo = [vCells (some ⟨g, 0, none⟩) (i64s [((Mr.getD (p.getD i 0) dR).L.getD (q.getD k 0) 0)])])] ⟨oM, oM, oM, oM, OblS_V (fun vals ex ψ => (by refine JL_normQ _ (_ :: _ :: _ :: _ :: _ :: ψ) rfl rfl ?_; refine JL_idx i sl22 rfl rfl rfl om rdg lno ?_; exact vz rfl)), OblS_V (fun vals ex ψ => (by refine JL_normQ _ (_ :: _ :: _ :: _ :: _ :: ψ) rfl rfl ?_; refine JL_loadE ty3 rfl rdg (i64s_get om) ?_; exact vz rfl)), OblS_V (fun vals ex ψ => (by refine JL_normQ _ (_ :: _ :: _ :: _ :: _ :: ψ) rfl rfl ?_; refine JL_idx (p.getD i 0) sl41 rfl rfl (zs_get om) om rdg (by rw [rws_length]; omega) ?_; exact vz rfl)), OblS_V (fun vals ex ψ => (by refine JL_normQ _ (_ :: _ :: _ :: _ :: _ :: ψ) rfl rfl ?_; refine JL_loadE ty22 rfl rdg (rws_get om) ?_; exact vz rfl)), oM, oM, OblS_V (fun vals ex ψ => (by refine JL_normQ _ (_ :: _ :: _ :: _ :: _ :: ψ) rfl rfl ?_; refine JL_idx k sl22 rfl rfl rfl om rdg lno ?_; exact vz rfl)), OblS_V (fun vals ex ψ => (by
     refine JL_normQ _ (_ :: _ :: _ :: _ :: _ :: ψ) rfl rfl ?_; refine JL_loadE ty3 rfl rdg (i64s_get om) ?_; exact vz rfl)), OblS_V (fun vals ex ψ => (by refine JL_normQ _ (_ :: _ :: _ :: _ :: _ :: ψ) rfl rfl ?_; refine JL_idx (q.getD k 0) sl22 rfl rfl (zs_get om) om rdg lno ?_; exact vz rfl)), OblS_V (fun vals ex ψ => (by refine JL_normQ _ (_ :: _ :: _ :: _ :: _ :: ψ) rfl rfl ?_; refine JL_loadE ty3 rfl rdg (i64s_get om) ?_; exact vz rfl)), OblS_C (fun vals ex ψ => (by refine JL_normQ ⟨44, [(27, _), (28, _), (29, _), (30, _), (31, _), (32, _), (33, _), (34, _), (35, _), (36, _), (37, _), (38, _), (39, _), (40, _), (41, _)], _⟩ (_ :: _ :: _ :: _ :: _ :: ψ) rfl rfl ?_; refine JL_build1 (v := .int .i64 ((Mr.getD (p.getD i 0) dR).L.getD (q.getD k 0) 0)) sl22 rfl rfl (fun g41 => ?_); rw [show [Value.int .i64 ((Mr.getD (p.getD i 0) dR).L.getD (q.getD k 0) 0)] = i64s [((Mr.getD (p.getD i 0) dR).L.getD (q.getD k 0) 0)] from rfl]; refine JL_giveLast ?_; exact JL_nil (JE_stepC [vCells (some ⟨g41, 0, none⟩) (i64s [((Mr.getD (p.getD i 0) dR).L.getD (q.getD k 0) 0)])] rfl ⟨g41, rfl, rfl⟩ (all_cons am all_nil) (ssS ss0)))), trivial⟩ kr (fun vals bs => ?_)
   refine JL_normL [_, _] ⟨44, [(27, _), (28, _), (29, _), (30, _), (31, _), (32, _), (33, _), (34, _), (35, _), (36, _), (37, _), (38, _), (39, _), (40, _), (41, _)], _⟩ [osl _ _ _ _ _ _] [_, _, _, _, _, _] rfl rfl rfl rfl ?_; generalize vals (0 + 1 + 1 + 1 + 1 + 1 + 1 + 1 + 1 + 1 + 1 + 1 + 1 + 1 + 1) = x41; refine JL_usePost mm0 (fun φo hP => ?_); obtain ⟨g41, rfl, rfl⟩ := hP; refine JL_norm _ [osl _ _ _ _ _ _] [_, _, _, _, _, _, _] rfl rfl rfl ?_; refine JL_appendIV (L := N) (M := [(Mr.getD (p.getD i 0) dR).L.getD (q.getD k 0) 0]) 0 sl22 rfl rfl rfl rdg (by first | rfl | assumption | (simp only [lenS]; omega)) om om (fun ad42 cap42 hc42 => ?_); rw [show N.length + 1 = (N ++ [(Mr.getD (p.getD i 0) dR).L.getD (q.getD k 0) 0]).length from (by rw [List.length_append]; rfl)]; refine JL_a ?_; refine JL_nu 44 [osl _ _ _ _ _ _] [_, _, _, _, _, _, _] ?_; refine JE_block_normal ?_; refine JE_then ?_; refine JC_region ?_; refine JL_m ?_; refine JL_add_to rfl rfl i6o ?_; refine JL_a ?_; refine JL_nv 44 ?_
   refine JE_nextS (k + 1, N ++ [(Mr.getD (p.getD i 0) dR).L.getD (q.getD k 0) 0], ad42, cap42) kr ?_ ?_ kr ?_
   · exact ⟨by omega, by rw [hN, ← wrI_step om, Rls_get hpi]; rfl⟩
   · first | omega | (dsimp only; omega)
   · exact subset_app subset_nil (ssS (ssS (ssS ss0)))
  ·refine JL_dv 44 ?_; refine JC_false rfl ?_; refine JC_exit ?_; refine JE_then_exit ?_; refine JE_nextS_exit ?_; refine JE_block_exit ?_; refine JE_block_normal ?_; refine JE_then ?_; refine JC_region ?_; refine JL_m ?_; refine JL_add_to rfl rfl i6o ?_; refine JL_a ?_; refine JL_nv 44 ?_; refine JE_nextS (i + 1, N, adk, ck) kr ?_ ?_ kr ?_
   · exact ⟨by omega, by rw [hN, show k = q.length by omega, wrI_row om]⟩
   · first | omega | (dsimp only; omega)
   · exact subset_app subset_nil ss0
 ·refine JL_dv 44 ?_; refine JC_false rfl ?_; refine JC_exit ?_; refine JE_then_exit ?_; refine JE_nextS_exit ?_; refine JE_block_exit ?_; refine JE_then ?_; refine JC_sr ?_; refine JL_m ?_; refine JL_a ?_; refine JL_dv 44 ?_; refine JC_ret ?_
  have hLw : L = wr (Rls Mr) p q := by rw [hL, show i = p.length by omega, wrI_all]
  rw [hLw]; refine JE_give 0 rfl ?_; refine JE_norm _ [] [_, _, _, _, _] rfl rfl rfl ?_; refine JE_ret (vs := [_]) [vCells adl (i64s (wr (Rls Mr) p q))] Tryz.results40 ⟨rfl, rfl⟩ ?_ ?_
  · exact ⟨adl, cl, rfl, rfl⟩
  · exact (all_cons am all_nil)

set_option maxHeartbeats 1000000 in
theorem rless_con {ad1 ad2 : Option Addr} {c1 c2 : Nat} {L M : List Int} (hl : L.length = M.length) (hL : L.length ≤ 1000000) :
    ConF Tryz.prog 41 [.slice ad1 L.length c1, .slice ad2 M.length c2] [vCells ad1 (i64s L), vCells ad2 (i64s M)]
      (fun v φo => v = .bool (decide (cmpLL L M < 0)) ∧ φo = []) := by
 refine ConF_of Tryz.func41 rfl 30 (_ :: _ :: rp 28) rfl rfl ?_; intro w0; refine JC_st [] [_, _] ?_; refine JC_sr ?_; refine JL_a ?_; refine JL_dv 30 ?_; refine JC_seq ?_; refine JC_sr ?_; refine JL_a ?_; refine JL_dv 30 ?_; refine JC_block ?_; refine JC_loopS ((Nat)) (fun (i : Nat) => i ≤ L.length ∧ ∀ j, j < i → L.getD j 0 = M.getD j 0) (fun (i : Nat) => L.length - i) (fun u (i : Nat) => (rn 4 (some (u 4) :: some (.int .i64 (i : Nat)) :: sc u 6 24 []))) (fun (i : Nat) => []) (fun (i : Nat) => []) (0) kr ?_ kr ?_ ?_
 · exact ⟨Nat.zero_le _, fun j hj => absurd hj (Nat.not_lt_zero _)⟩
 · exact subset_nil
 intro u i hC; obtain ⟨hi, hj⟩ := hC; refine JC_nm 30 [] [_, _] ?_; refine JC_seq ?_; refine JC_sr ?_; refine JL_m ?_; refine JL_m ?_; refine JL_len sl22 rfl ?_; refine JL_lss rfl rfl ?_; refine JL_split (fun h9 => ?_) (fun h9 => ?_)
 ·refine JL_dv 30 ?_; refine JC_true rfl ?_; refine JC_skip ?_; refine JE_then ?_; refine JC_seq ?_; refine JC_block ?_; refine JC_seq ?_; refine JC_drawT mixed 8 [spV 12 [] _, spV 13 [] _, spV 14 [0, 1] _, spV 15 [2] _, spV 16 [] _, spV 17 [] _, spV 18 [4, 5] _, spV 19 [6] _] ⟨oM, oM, OblS_V (fun vals ex ψ => (by refine JL_normQ _ (_ :: _ :: ψ) rfl rfl ?_; refine JL_idx i sl22 rfl rfl rfl om rdg lno ?_; exact vz rfl)), OblS_V (fun vals ex ψ => (by refine JL_normQ _ (_ :: _ :: ψ) rfl rfl ?_; refine JL_loadE ty3 rfl rdg (i64s_get om) ?_; exact vz rfl)), oM, oM, OblS_V (fun vals ex ψ => (by refine JL_normQ _ (_ :: _ :: ψ) rfl rfl ?_; refine JL_idx i sl22 rfl rfl rfl om rdg lno ?_; exact vz rfl)), OblS_V (fun vals ex ψ => (by refine JL_normQ _ (_ :: _ :: ψ) rfl rfl ?_; refine JL_loadE ty3 rfl rdg (i64s_get om) ?_; exact vz rfl)), trivial⟩ kr (fun vals bs => ?_)
  refine JL_normL [_] ⟨30, [(12, _), (13, _), (14, _), (15, _), (16, _), (17, _), (18, _), (19, _)], _⟩ [] [_, _] rfl rfl rfl rfl ?_; refine JL_neq rfl rfl ?_; refine JL_split (fun h20 => ?_) (fun h20 => ?_)
  ·refine JL_du 30 [] [_, _] ?_; refine JC_true rfl ?_; refine JC_seq ?_; refine JC_drawT mixed 8 [spV 21 [] _, spV 22 [] _, spV 23 [0, 1] _, spV 24 [2] _, spV 25 [] _, spV 26 [] _, spV 27 [4, 5] _, spV 28 [6] _] ⟨oM, oM, OblS_V (fun vals ex ψ => (by refine JL_normQ _ (_ :: _ :: ψ) rfl rfl ?_; refine JL_idx i sl22 rfl rfl rfl om rdg lno ?_; exact vz rfl)), OblS_V (fun vals ex ψ => (by refine JL_normQ _ (_ :: _ :: ψ) rfl rfl ?_; refine JL_loadE ty3 rfl rdg (i64s_get om) ?_; exact vz rfl)), oM, oM, OblS_V (fun vals ex ψ => (by refine JL_normQ _ (_ :: _ :: ψ) rfl rfl ?_; refine JL_idx i sl22 rfl rfl rfl om rdg lno ?_; exact vz rfl)), OblS_V (fun vals ex ψ => (by refine JL_normQ _ (_ :: _ :: ψ) rfl rfl ?_; refine JL_loadE ty3 rfl rdg (i64s_get om) ?_; exact vz rfl)), trivial⟩ kr (fun vals bs => ?_)
   refine JL_normL [_, _] ⟨30, [(21, _), (22, _), (23, _), (24, _), (25, _), (26, _), (27, _), (28, _)], _⟩ [] [_, _] rfl rfl rfl rfl ?_; refine JL_lss rfl rfl ?_; refine JL_a ?_; refine JL_du 30 [] [_, _] ?_; refine JC_ret ?_; refine JE_block_ret ?_; refine JE_then_ret ?_; refine JE_nextS_ret ?_; refine JE_block_ret ?_; refine JE_then_ret ?_; refine JE_ret (vs := [_]) [] Tryz.results41 ⟨rfl, rfl⟩ ?_ ?_
   · rw [decide_eq_decide.2 (cmp_at hl om hj h20).symm]; exact ⟨rfl, rfl⟩
   · exact all_nil
  ·refine JL_du 30 [] [_, _] ?_; refine JC_false rfl ?_; refine JC_skip ?_; refine JE_block_normal ?_; refine JE_then ?_; refine JC_region ?_; refine JL_m ?_; refine JL_add_to rfl rfl i6o ?_; refine JL_a ?_; refine JL_nv 30 ?_; refine JE_nextS (i + 1) kr ?_ ?_ kr ?_
   · exact ⟨by omega, fun j hj2 => by
     by_cases e : j = i
     · subst e; omega
     · exact hj j om⟩
   · first | omega | (dsimp only; omega)
   · exact subset_app subset_nil ss0
 ·refine JL_dv 30 ?_; refine JC_false rfl ?_; refine JC_exit ?_; refine JE_then_exit ?_; refine JE_nextS_exit ?_; refine JE_block_exit ?_; refine JE_then ?_; refine JC_sr ?_; refine JL_a ?_; refine JL_dv 30 ?_; refine JC_ret ?_; refine JE_ret (vs := [_]) [] Tryz.results41 ⟨rfl, rfl⟩ ?_ ?_
  · rw [decide_eq_false (p := cmpLL L M < 0) (cmp_same (list_eq_of hl fun j h2 => hj j om))]; exact ⟨rfl, rfl⟩
  · exact all_nil

end Go.Fw.K
