/- Walks through functions of the given program: each meets its contract. (Printed by a program of this repo.) -/
import Derived.Test.YtjkbamfcoiikmaaGreatDoorMA
import Derived.Test.YtjkbamfcoiikmaaGreatDoorPqKM
import Derived.Test.YtjkbamfcoiikmaaGreatDoorFwEE
import Derived.Test.YtjkbamfcoiikmaaGreatDoorFwQS
import Derived.Test.YtjkbamfcoiikmaaGreatDoorProg
namespace Go.Fw.MB
open Go Go.RowKit Go.Proofs Go.Nat9 Go.Fw
attribute [local irreducible] JC JL JE
theorem ar98 : arOf Tryz.prog 98 = some (3, 1) := by kernel_rfl
theorem ca100 : callable Tryz.prog 100 = true := by kernel_rfl
theorem ca35 : callable Tryz.prog 35 = true := by kernel_rfl
theorem ca38 : callable Tryz.prog 38 = true := by kernel_rfl
theorem ca59 : callable Tryz.prog 59 = true := by kernel_rfl
theorem ca60 : callable Tryz.prog 60 = true := by kernel_rfl
theorem ca61 : callable Tryz.prog 61 = true := by kernel_rfl
theorem ca62 : callable Tryz.prog 62 = true := by kernel_rfl
theorem ca63 : callable Tryz.prog 63 = true := by kernel_rfl
theorem ca64 : callable Tryz.prog 64 = true := by kernel_rfl
theorem ca65 : callable Tryz.prog 65 = true := by kernel_rfl
theorem ca66 : callable Tryz.prog 66 = true := by kernel_rfl
theorem ca98 : callable Tryz.prog 98 = true := by kernel_rfl
theorem fo60_1 : fOf Tryz.prog 60 1 = some 1 := by kernel_rfl
theorem fo60_2 : fOf Tryz.prog 60 2 = some 2 := by kernel_rfl
theorem mixed : Tryz.prog.follows .mixedOrders = true := by kernel_rfl
theorem sl57 : slOf Tryz.prog 57 = some (58, 1, 8, [.pointer none]) := by kernel_rfl
theorem st60 : stOf Tryz.prog 60 = some ([(0, 1), (1, 1), (2, 1)], [.int .i64 0, .bool false, .slice none 0 0]) := by kernel_rfl
theorem ty4 : tyOf Tryz.prog 4 = some (false, 1) := by kernel_rfl
theorem ty57 : tyOf Tryz.prog 57 = some (false, 1) := by kernel_rfl
theorem ty58 : tyOf Tryz.prog 58 = some (false, 1) := by kernel_rfl
theorem ty72 : tyOf Tryz.prog 72 = some (false, 1) := by kernel_rfl
theorem ty98 : tyOf Tryz.prog 98 = some (true, 3) := by kernel_rfl
theorem z98 : zeroOf Tryz.prog 98 = some [.slice none 0 0, .slice none 0 0, .slice none 0 0] := by kernel_rfl
end Go.Fw.MB
namespace Go.Fw.K
open Go Go.RowKit Go.Proofs Go.Nat9 Go.Fw Go.Fw.MB
attribute [local irreducible] JC JL JE

open Go.Fw.Pq
theorem idxN_con {ad : Option Addr} {c n : Nat} {xs : List Value} (hxn : xs.length = n) {f : FuncId} {caps : List Value} {vc : VP} (hcf : callable Tryz.prog f = true) (p : Nat → Bool) (hn : xs.length ≤ 9223372036854775807) (hc : ∀ k, k < xs.length → ConF Tryz.prog f ([xs.getD k undef] ++ caps) [vc] (fun v φo => v = .bool (p k) ∧ φo = [])) :
    ConF Tryz.prog 98 [.slice ad n c, .func (.func f) #[] caps.toArray] [vCells ad xs, vc]
      (fun v φo => ∃ r, v = .int .i64 r ∧ φo = [] ∧ Go.Fw.firstI p n r) := by
 subst hxn; refine ConF_of Tryz.func98 rfl 19 (_ :: _ :: rp 17) rfl rfl ?_; intro w0; refine JC_st [] [_, _] ?_; refine JC_sr ?_; refine JL_a ?_; refine JL_dv 19 ?_; refine JC_seq ?_; refine JC_sr ?_; refine JL_m ?_; refine JL_len sl57 rfl ?_; refine JL_m ?_; refine JL_dv 19 ?_; refine JC_block ?_; refine JC_loopS ((Nat)) (fun (k : Nat) => k ≤ xs.length ∧ ∀ j, j < k → p j = false) (fun (k : Nat) => xs.length - k) (fun u (k : Nat) => (rn 4 (sc u 4 2 (rn 2 (some (.int .i64 (k : Nat)) :: sc u 9 10 []))))) (fun (k : Nat) => []) (fun (k : Nat) => []) (0) kr ?_ kr ?_ ?_
 · exact ⟨Nat.zero_le _, fun j hj => absurd hj (Nat.not_lt_zero j)⟩
 · exact subset_nil
 intro u k hC; obtain ⟨hk, hpf⟩ := hC; refine JC_nm 19 [] [_, _] ?_; refine JC_sr ?_; refine JL_lss rfl rfl ?_; refine JL_split (fun h9 => ?_) (fun h9 => ?_)
 ·refine JL_dv 19 ?_; refine JC_seq ?_; refine JC_true rfl ?_; refine JC_skip ?_; refine JE_then ?_; refine JC_seq ?_; refine JC_block ?_; refine JC_sr ?_; refine JL_m ?_; refine JL_a ?_; refine JL_dv 19 ?_; refine JC_sr ?_; refine JL_m ?_; refine JL_m ?_; refine JL_m ?_; refine JL_idx k sl57 rfl rfl rfl om rdg om ?_; refine JL_loadE ty58 rfl rdg (vals_get om) ?_; refine JL_callD (Asks.cons (holds_of_mem am) Asks.nil) (hc k om) rfl hcf ⟨rfl, rfl⟩ ?_; rintro _ _ ⟨rfl, rfl⟩; refine JL_du 19 [] [_, _] ?_; refine JC_cond rfl (fun hb => ?_) (fun hb => ?_)
  ·have h16 := hb
   refine JC_sr ?_; refine JL_m ?_; refine JL_a ?_; refine JL_dv 19 ?_; refine JC_ret ?_; refine JE_block_ret ?_; refine JE_then_ret ?_; refine JE_nextS_ret ?_; refine JE_block_ret ?_; refine JE_then_ret ?_; refine JE_ret (vs := [_]) [] Tryz.results98 ⟨rfl, rfl⟩ ?_ ?_
   · exact ⟨_, rfl, rfl, .inr ⟨k, by omega, rfl, h16, hpf⟩⟩
   · exact all_nil
  ·have h16 := hb
   refine JC_skip ?_; refine JE_block_normal ?_; refine JE_then ?_; refine JC_region ?_; refine JL_add_to rfl rfl i6o ?_; refine JL_m ?_; refine JL_nv 19 ?_; refine JE_nextS (k + 1) kr ?_ ?_ kr ?_
   · exact ⟨by omega, fun j hj => by
     by_cases h : j = k
     · subst h; exact h16
     · exact hpf j om⟩
   · first | omega | (dsimp only; omega)
   · exact subset_app subset_nil ss0
 ·refine JL_dv 19 ?_; refine JC_seq ?_; refine JC_false rfl ?_; refine JC_exit ?_; refine JE_then_exit ?_; refine JE_nextS_exit ?_; refine JE_block_exit ?_; refine JE_then ?_; refine JC_sr ?_; refine JL_a ?_; refine JL_dv 19 ?_; refine JC_ret ?_; refine JE_ret (vs := [_]) [] Tryz.results98 ⟨rfl, rfl⟩ ?_ ?_
  · exact ⟨_, rfl, rfl, .inl ⟨rfl, fun j hj => hpf j om⟩⟩
  · exact all_nil

theorem del1_con {ad : Option Addr} {c : Nat} {o : List AT} (ho : o.length ≤ 1) (hc : 1 ≤ c) :
    ConO Tryz.prog 100 [.slice ad 1 c, .func (.func 101) #[] #[]] [osl ad 1 c 58 1 ([.pointer (oad o)])] []
      (fun v rout φo => v = .slice ad o.length c ∧ rout = [osl ad o.length c 58 1 (ptrs o)] ∧ φo = []) := by
 refine ConO_of Tryz.func100 rfl 42 (_ :: _ :: rp 40) rfl rfl ?_; intro w0 p0 p1; refine JC_st [osl _ _ _ _ _ _] [_, _] ?_; refine JC_sr ?_; refine JL_a ?_; refine JL_dv 42 ?_; refine JC_sr ?_; refine JL_m ?_; refine JL_m ?_; refine JL_callF' (Asks.cons (holds_of_own 0 rfl) (Asks.cons (Asks.list (l := []) Asks.nil) Asks.nil)) (idxN_con (xs := [.pointer (oad o)]) (n := 1) rfl (f := 101) (caps := []) (vc := vList []) kr (fun _ => (oad o).isNone) (show (1 : Nat) ≤ 9223372036854775807 by omega) (fun k hk => by obtain rfl : k = 0 := (by simp only [List.length_cons, List.length_nil] at hk; omega); exact ConF.ofList (ps := []) isnil_con)) rfl ca98 ⟨rfl, rfl, rfl⟩ ?_; rintro _ _ ⟨r10, rfl, rfl, hr10⟩; refine JL_a ?_; refine JL_du 42 [osl _ _ _ _ _ _] [_, _] ?_; refine JC_seq ?_; refine JC_sr ?_; refine JL_m ?_; refine JL_eql rfl rfl ?_; refine JL_split (fun h12 => ?_) (fun h12 => ?_)
 ·have hp0 : (oad o).isNone = false := by rcases hr10 with ⟨_, h⟩ | ⟨k, _, e, _⟩; exact h 0 zp; omega
  obtain ⟨t, rfl⟩ := oad_some ho hp0; refine JL_dv 42 ?_; refine JC_true rfl ?_; refine JC_sr ?_; refine JL_m ?_; refine JL_a ?_; refine JL_dv 42 ?_; refine JC_ret ?_; refine JE_then_ret ?_; refine JE_retO (vs := [_]) [] Tryz.results100 ⟨rfl, rfl⟩ ?_ ?_ am am
  · exact ⟨rfl, rfl, rfl⟩
  · exact all_nil
 ·obtain ⟨k, hk, hkr, hkp, -⟩ := hr10.resolve_left (fun e => h12 e.1); obtain rfl : k = 0 := by omega
  subst hkr
  have ho0 := oad_none hkp
  subst ho0; refine JL_dv 42 ?_; refine JC_false rfl ?_; refine JC_skip ?_; refine JE_then ?_; refine JC_seq ?_; refine JC_sr ?_; refine JL_m ?_; refine JL_add_to rfl rfl i6o ?_; refine JL_a ?_; refine JL_dv 42 ?_; refine JC_block ?_; refine JC_loopS (Unit) (fun _ => True) (fun _ => 0) (fun u _ => (rn 5 (some (.int .i64 ((0 : Nat) : Int)) :: some (.int .i64 1) :: some (u 7) :: rn 8 (sc u 16 20 [])))) (fun _ => []) (fun _ => []) (()) kr ?_ kr ?_ ?_
  · trivial
  · exact subset_nil
  intro u i hC; refine JC_nm 42 [osl _ _ _ _ _ _] [_, _] ?_; refine JC_seq ?_; refine JC_sr ?_; refine JL_m ?_; refine JL_m ?_; refine JL_len sl57 rfl ?_; refine JL_lss rfl rfl ?_; refine JL_split (fun h19 => ?_) (fun h19 => ?_)
  · exact absurd h19 (by decide)
  ·refine JL_dv 42 ?_; refine JC_false rfl ?_; refine JC_exit ?_; refine JE_then_exit ?_; refine JE_nextS_exit ?_; refine JE_block_exit ?_; refine JE_then ?_; refine JC_sr ?_; refine JL_m ?_; refine JL_m ?_; refine JL_slice 0 1 c sl57 rfl (.some rfl rfl) .none .none (.inl rfl) om om om ?_; refine JL_clear (n := 1) (cap := c) (k := 0) 0 sl57 rfl ao1 rfl rfl om ?_; refine JL_du 42 [osl _ _ _ _ _ _] [_, _] ?_; refine JC_sr ?_; refine JL_m ?_; refine JL_m ?_; refine JL_sliceTo 0 sl57 rfl rfl rfl (Nat.zero_le _) ?_; refine JL_a ?_; refine JL_du 42 [osl _ _ _ _ _ _] [_, _] ?_; refine JC_ret ?_; refine JE_retO (vs := [_]) [] Tryz.results100 ⟨rfl, rfl⟩ ?_ ?_ am am
   · exact ⟨rfl, rfl, rfl⟩
   · exact all_nil

theorem join_con {ad ad2 : Option Addr} {c c2 : Nat} {l o : List AT} (hl : l.length ≤ 100000) (ho : o.length ≤ 1) (hc : 1 ≤ c2) :
    ConO Tryz.prog 64 [.slice ad l.length c, .slice ad2 1 c2] [osl ad l.length c 58 1 (ptrs l), osl ad2 1 c2 58 1 ([.pointer (oad o)])] []
      (fun v rout φo => ∃ (ad3 : Option Addr) (c3 : Nat), v = .slice ad3 (l ++ o).length c3 ∧ ((l ++ o).length ≤ c3 ∧ c3 ≤ 9223372036854775807) ∧ rout = [osl ad3 (l ++ o).length c3 58 1 (ptrs (l ++ o))] ∧ φo = []) := by
 refine ConO_of Tryz.func64 rfl 9 (_ :: _ :: rp 7) rfl rfl ?_; intro w0 p0 p1; refine JC_st [osl _ _ _ _ _ _, osl _ _ _ _ _ _] [_, _] ?_; refine JC_sr ?_; refine JL_a ?_; refine JL_dv 9 ?_; refine JC_sr ?_; refine JL_m ?_; refine JL_m ?_; refine JL_callOL (σ1 := [osl _ _ _ _ _ _]) (del1_con ho hc) rfl ca100 ⟨rfl, rfl, rfl⟩ ?_; rintro _ _ _ ⟨rfl, rfl, rfl⟩; refine JL_norm _ [osl _ _ _ _ _ _, osl _ _ _ _ _ _] [_, _] rfl rfl rfl ?_; refine JL_append (news := ptrs o) 0 sl57 rfl (by decide) rfl rfl rfl (by rw [ptrs_length, Nat.mul_one]) (Reads.own 1 rfl) (ptrs_one o) om om (fun ad8 cap8 hc8 => ?_); refine JL_norm _ [osl _ _ _ _ _ _, osl _ _ _ _ _ _] [_, _] rfl rfl rfl ?_; rw [ptrs_app, ← List.length_append]; rw [← List.length_append] at hc8; refine JL_dropAt 1 ?_; refine JL_norm _ [osl _ _ _ _ _ _] [_, _] rfl rfl rfl ?_; refine JL_a ?_; refine JL_du 9 [osl _ _ _ _ _ _] [_, _] ?_; refine JC_ret ?_; refine JE_retO (vs := [_]) [] Tryz.results64 ⟨rfl, rfl⟩ ?_ ?_ am am
 · exact ⟨ad8, cap8, rfl, hc8, rfl, rfl⟩
 · exact all_nil

set_option maxHeartbeats 2000000 in
set_option maxRecDepth 20000 in
theorem lin_con0 {mb : Nat} {R : List (Int × Bool)} (hR : (R.map (·.1)).Nodup) {b n : Nat} {q : Bool} {ad : Option Addr} {cap : Nat} {ks : List AT} (hf : Fit (.mk b n q ad cap ks)) (hL : (lvs (er (.mk b n q ad cap ks))).length ≤ 1000)
    (IH : ∀ k ∈ ks, ConO Tryz.prog 63 [.map (some mb), ptr k] [] [vMap mb (mE iv bv R 0) R.length, vA k] (fun v rout φo => ∃ (o : List AT) (ad3 : Option Addr) (c3 : Nat) (b3 : Bool), v = .tuple #[.slice ad3 o.length c3, .bool b3] ∧ (o.length ≤ c3 ∧ c3 ≤ 9223372036854775807) ∧ rout = [osl ad3 o.length c3 58 1 (ptrs o)] ∧ φo = [vAs o] ∧ (∀ x ∈ o, Fit x) ∧ lin (mS R) (er (k)) = (if b3 then some (o.map er) else none))) :
    ConO Tryz.prog 63 [.map (some mb), nptr b] [] [vMap mb (mE iv bv R 0) R.length, vA (.mk b n q ad cap ks)]
      (fun v rout φo => ∃ (o : List AT) (ad3 : Option Addr) (c3 : Nat) (b3 : Bool), v = .tuple #[.slice ad3 o.length c3, .bool b3] ∧ (o.length ≤ c3 ∧ c3 ≤ 9223372036854775807) ∧ rout = [osl ad3 o.length c3 58 1 (ptrs o)] ∧ φo = [vAs o] ∧ (∀ x ∈ o, Fit x) ∧ lin (mS R) (er (.mk b n q ad cap ks)) = (if b3 then some (o.map er) else none)) := by
 refine ConO_of Tryz.func63 rfl 122 (_ :: _ :: rp 120) rfl rfl ?_; intro w0 p0 p1; refine JC_st [] [_, _, _, _] ?_; refine JC_sr ?_; refine JL_a ?_; refine JL_a ?_; refine JL_dv 122 ?_; refine JC_seq ?_; refine JC_sr ?_; refine JL_m ?_; refine JL_m ?_; refine JL_callF' (Asks.cons (holds_of_mem am) (Asks.cons (holds_of_mem am) Asks.nil)) (state_con hR (.mk b n q ad cap ks) hf) rfl ca59 ⟨rfl, rfl, rfl⟩ ?_; rintro _ _ ⟨rfl, rfl⟩; refine JL_neq rfl rfl ?_; refine JL_split (fun h23 => ?_) (fun h23 => ?_)
 ·refine JL_du 122 [] [_, _, _, _] ?_; refine JC_true rfl ?_; refine JC_sr ?_; refine JL_m ?_; refine JL_build1 sl57 rfl rfl (fun g25 => ?_); refine JL_a ?_; refine JL_a ?_; refine JL_du 122 [osl _ _ _ _ _ _] [_, _, _, _] ?_; refine JC_ret ?_; refine JE_then_ret ?_; refine JE_asOne (f := true) (t := .mk b n q ad cap ks) am ?_; refine JE_retO (vs := [_, _]) [vAs [.mk b n q ad cap ks]] Tryz.results63 ⟨rfl, rfl, rfl⟩ ?_ ?_ am am
  · exact ⟨[.mk b n q ad cap ks], _, _, true, rfl, ⟨Nat.le_refl _, by show (1 : Nat) ≤ _; omega⟩, rfl, rfl, fun x hx => by rw [List.mem_singleton.1 hx]; exact hf, by rw [lin_one (fun e => h23 (by rw [e]; rfl))]; rfl⟩
  · exact (all_cons am all_nil)
 ·have hst : st (mS R) (er (.mk b n q ad cap ks)) = 1 := by omega
  have hks := one_ne hst
  have hL2 : nA ks ≤ 1000 := by rw [← nA_nd hks]; exact hL
  refine JL_du 122 [] [_, _, _, _] ?_; refine JC_false rfl ?_; refine JC_skip ?_; refine JE_then ?_; refine JC_seq ?_; refine JC_seq ?_
  rcases q with _ | _
  ·have hcp := hf.cap
   have hln := hf.len
   refine JC_atOpen (f := true) (b := b) (n := n) (q := false) (ad := ad) (cap := cap) (ks := ks) am ?_; rw [er_nd hks] at hst; refine JC_region ?_; refine JL_m ?_; refine JL_nilCheckE rfl ?_; refine JL_fieldAddrE fo60_1 rfl rdg (show 0 < (ncells n false ad ks.length cap).length from Nat.zero_lt_succ _) ?_; refine JL_loadE ty4 rfl rdg rfl ?_; refine JL_not rfl ?_; rw [Bool.not_false]; refine JL_dv 122 ?_; refine JC_true rfl ?_; refine JC_sr ?_; refine JL_m ?_; refine JL_m ?_; refine JL_callO0 (AsksO.cons am (AsksO.cons am AsksO.nil)) (sorted_con hR hf) rfl ca62 ⟨rfl, rfl, rfl⟩ ?_; rintro _ _ _ ⟨b4_33, b5_33, a0_33, a1_33, a2_33, c0_33, c1_33, c2_33, rfl, ⟨hc0_33, hc1_33, hc2_33⟩, rfl, rfl⟩; refine JL_norm _ [box _ _ [_, _, _], box _ _ [_, _, _], osl _ _ _ _ _ _, osl _ _ _ _ _ _, osl _ _ _ _ _ _] [_, _, _, _, _, _, _] rfl rfl rfl ?_; refine JL_alloc z98 (fun b6 => ?_); refine JL_store (vs := [_, _, _]) 5 ty98 rfl rfl rfl ao3 rfl bleq ?_
   refine JL_du 122 [box _ _ [_, _, _], box _ _ [_, _, _], osl _ _ _ _ _ _, osl _ _ _ _ _ _, osl _ _ _ _ _ _, box _ _ [_, _, _]] [_, _, _, _, _, _, _] ?_; refine JC_seq ?_; refine JC_sr ?_; refine JL_idxArr 1 ar98 rfl rfl rfl (by decide) ?_; refine JL_load 5 ty57 rfl rfl rfl ?_; refine JL_len sl57 rfl ?_; refine JL_gtr rfl rfl ?_; refine JL_split (fun h37 => ?_) (fun h37 => ?_)
   ·refine JL_dv 122 ?_; refine JC_true rfl ?_; refine JC_sr ?_; refine JL_a ?_; refine JL_a ?_; refine JL_dv 122 ?_; refine JC_ret ?_; refine JE_then_ret ?_; refine JE_then_ret ?_; refine JE_asNil ?_; refine JE_dropAt 5 ?_; refine JE_dropAt 4 ?_; refine JE_dropAt 3 ?_; refine JE_dropAt 2 ?_; refine JE_dropAt 1 ?_; refine JE_dropAt 0 ?_; refine JE_norm _ [] [_, _, _, _, _, _, _, _] rfl rfl rfl ?_; refine JE_addNil 58 1 ?_; refine JE_retO (vs := [_, _]) [vAs []] Tryz.results63 ⟨rfl, rfl, rfl⟩ ?_ ?_ am am
    · exact ⟨[], none, 0, false, rfl, ⟨Nat.le_refl _, by omega⟩, rfl, rfl, (fun _ h => by cases h), by rw [er_nd hks, LP.two om hst]; rfl⟩
    · exact (all_cons am all_nil)
   ·have hb3 := nA_by3 (S := mS R) ks
    refine JL_dv 122 ?_; refine JC_false rfl ?_; refine JC_skip ?_; refine JE_then ?_; refine JC_sr ?_; refine JL_idxArr 0 ar98 rfl rfl rfl (by decide) ?_; refine JL_load 5 ty57 rfl rfl rfl ?_; refine JL_give 2 rfl ?_; refine JL_norm _ [box _ _ [_, _, _], box _ _ [_, _, _], osl _ _ _ _ _ _, osl _ _ _ _ _ _, box _ _ [_, _, _]] [_, _, _, _, _, _, _, _] rfl rfl rfl ?_; refine JL_asSub (f := true) (l := ks) (m := byA (mS R) 0 ks) am (fun x hx => byA_mem hx) ?_; refine JL_callA' true (AsksA.cons (holdsA_of_mem am) (AsksA.cons (holdsA_of_mem am) AsksA.nil)) (group_con hc0_33 (by have := byA_len (mS R) 0 ks; omega) (fun k hk => hf.kids k (byA_mem hk))) rfl ca35 ⟨rfl, rfl⟩ ?_; rintro _ _ ⟨o40, rfl, rfl, he40, hf40⟩; rw [optr_oad]
    have ho40 := one_grp he40
    refine JL_addNil 58 1 ?_; refine JL_build1 sl57 rfl rfl (fun g41 => ?_); refine JL_callOL (σ1 := [box _ _ [_, _, _], box _ _ [_, _, _], osl _ _ _ _ _ _, osl _ _ _ _ _ _, box _ _ [_, _, _]]) (join_con (l := []) (o := o40) (Nat.zero_le _) ho40 (Nat.le_refl _)) rfl ca64 ⟨rfl, rfl, rfl⟩ ?_; rintro _ _ _ ⟨ad42, c42, rfl, hc42, rfl, rfl⟩; refine JL_norm _ [box _ _ [_, _, _], box _ _ [_, _, _], osl _ _ _ _ _ _, osl _ _ _ _ _ _, box _ _ [_, _, _], osl _ _ _ _ _ _] [_, _, _, _, _, _, _, _, _, _] rfl rfl rfl ?_; rw [List.nil_append]; refine JL_a ?_; refine JL_du 122 [box _ _ [_, _, _], box _ _ [_, _, _], osl _ _ _ _ _ _, osl _ _ _ _ _ _, box _ _ [_, _, _], osl _ _ _ _ _ _] [_, _, _, _, _, _, _, _, _, _] ?_; refine JC_seq ?_; refine JC_sr ?_; refine JL_idxArr 1 ar98 rfl rfl rfl (by decide) ?_; refine JL_load 4 ty57 rfl rfl rfl ?_; refine JL_len sl57 rfl ?_; refine JL_m ?_; refine JL_dv 122 ?_; refine JC_block ?_
    refine JC_loopS ((Nat) × (List AT) × (Option Addr) × (Nat)) (fun (j, o, ad3, c3) => j ≤ (byA (mS R) 1 ks).length ∧ LP (mS R) ks j o ∧ (∀ x ∈ o, Fit x) ∧ nA o ≤ nA (byA (mS R) 0 ks) + nA ((byA (mS R) 1 ks).take j)) (fun (j, o, ad3, c3) => (byA (mS R) 1 ks).length - j) (fun u (j, o, ad3, c3) => (rn 4 (sc u 4 2 (none :: some (.slice ad3 o.length c3) :: none :: sc u 9 3 (rn 34 (some (.int .i64 (j : Nat)) :: sc u 47 15 [])))))) (fun (j, o, ad3, c3) => (rn 5 [some (osl ad3 o.length c3 58 1 (ptrs o))])) (fun (j, o, ad3, c3) => [(true, vAs o)]) (0, o40, ad42, c42) kr ?_ kr ?_ ?_
    · exact ⟨Nat.zero_le _, LP.zero he40, hf40, by rw [nA_grp he40]; omega⟩
    · exact (subset_cons am subset_nil)
    intro u i hC; obtain ⟨j, o, ad3, c3⟩ := i; obtain ⟨hj, hP, hF, hN⟩ := hC; refine JC_nm 122 [box _ _ [_, _, _], box _ _ [_, _, _], osl _ _ _ _ _ _, osl _ _ _ _ _ _, box _ _ [_, _, _], osl _ _ _ _ _ _] [_, _, _, _, _, _, _, _, _, _, _] ?_
    have hoL := nA_ge hF
    have hb3 := nA_by3 (S := mS R) ks
    have hbj := nA_le (byA (mS R) 1 ks) j
    refine JC_sr ?_; refine JL_lss rfl rfl ?_; refine JL_split (fun h47 => ?_) (fun h47 => ?_)
    ·have hKl := nA_mem (at_mem (l := byA (mS R) 1 ks) (i := j) om)
     refine JL_dv 122 ?_; refine JC_seq ?_; refine JC_true rfl ?_; refine JC_skip ?_; refine JE_then ?_; refine JC_seq ?_; refine JC_block ?_; refine JC_sr ?_; refine JL_idx j sl57 rfl rfl rfl om (Reads.own 2 rfl) (by rw [ptrs_length]; omega) ?_; refine JL_loadE ty58 rfl (Reads.own 2 rfl) (ptrs_get om) ?_; refine JL_a ?_; refine JL_dv 122 ?_; refine JC_sr ?_; refine JL_m ?_; refine JL_m ?_; refine JL_callO0 (AsksO.cons am (AsksO.cons am AsksO.nil)) (conAsO (IH ((byA (mS R) 1 ks).getD j default) (byA_mem (S := mS R) (s := 1) (at_mem (i := j) om))) (byA_mem (S := mS R) (s := 1) (at_mem (i := j) om))) rfl ca63 ⟨rfl, rfl, rfl⟩ ?_; rintro _ _ _ ⟨o53, ad53, c53, b53, rfl, hc53, rfl, rfl, hf53, hl53⟩; refine JL_norm _ [box _ _ [_, _, _], box _ _ [_, _, _], osl _ _ _ _ _ _, osl _ _ _ _ _ _, box _ _ [_, _, _], osl _ _ _ _ _ _, osl _ _ _ _ _ _] [_, _, _, _, _, _, _, _, _, _, _, _] rfl rfl rfl ?_; refine JL_m ?_; refine JL_extract rfl rfl ?_; refine JL_extract rfl rfl ?_; refine JL_a ?_; refine JL_a ?_
     refine JL_du 122 [box _ _ [_, _, _], box _ _ [_, _, _], osl _ _ _ _ _ _, osl _ _ _ _ _ _, box _ _ [_, _, _], osl _ _ _ _ _ _, osl _ _ _ _ _ _] [_, _, _, _, _, _, _, _, _, _, _, _] ?_; refine JC_seq ?_; refine JC_sr ?_; refine JL_m ?_; refine JL_not rfl ?_; refine JL_dv 122 ?_; refine JC_cond rfl (fun hb => ?_) (fun hb => ?_)
     ·have h57 := hb
      refine JC_sr ?_; refine JL_a ?_; refine JL_a ?_; refine JL_dv 122 ?_; refine JC_ret ?_; refine JE_then_ret ?_; refine JE_block_ret ?_; refine JE_then_ret ?_; refine JE_nextS_ret ?_; refine JE_block_ret ?_; refine JE_then_ret ?_; refine JE_then_ret ?_; refine JE_asNil ?_; refine JE_dropAt 6 ?_; refine JE_dropAt 5 ?_; refine JE_dropAt 4 ?_; refine JE_dropAt 3 ?_; refine JE_dropAt 2 ?_; refine JE_dropAt 1 ?_; refine JE_dropAt 0 ?_; refine JE_norm _ [] [_, _, _, _, _, _, _, _, _, _, _, _, _] rfl rfl rfl ?_; refine JE_addNil 58 1 ?_; refine JE_retO (vs := [_, _]) [vAs []] Tryz.results63 ⟨rfl, rfl, rfl⟩ ?_ ?_ am am
      · exact ⟨[], none, 0, false, rfl, ⟨Nat.le_refl _, by omega⟩, rfl, rfl, (fun _ h => by cases h), by rw [er_nd hks, LP.no (j := j) om om hst (by rw [hl53, show b53 = false from by cases b53 with | false => rfl | true => exact absurd h57 (by decide)]; rfl)]; rfl⟩
      · exact (all_cons am all_nil)
     ·have h57 := hb
      refine JC_skip ?_; refine JE_then ?_; refine JC_region ?_; refine JL_m ?_; refine JL_m ?_; obtain rfl : b53 = true := by cases b53 with | true => rfl | false => exact absurd h57 (by decide)
      replace hl53 : lin (mS R) (er ((byA (mS R) 1 ks).getD j default)) = some (o53.map er) := hl53
      have hN53 : nA o53 = _ := lin_nl (hf.kids _ (byA_mem (S := mS R) (s := 1) (at_mem (i := j) om))).ok hl53
      have hoL2 := nA_ge hf53
      have hbj2 := nA_take (l := byA (mS R) 1 ks) (i := j) om
      have hbj3 := nA_le (byA (mS R) 1 ks) (j + 1)
      refine JL_append (news := ptrs o53) 5 sl57 rfl (by decide) rfl rfl rfl (by rw [ptrs_length, Nat.mul_one]) (Reads.own 6 rfl) (ptrs_one o53) om om (fun ad60 cap60 hc60 => ?_); refine JL_norm _ [box _ _ [_, _, _], box _ _ [_, _, _], osl _ _ _ _ _ _, osl _ _ _ _ _ _, box _ _ [_, _, _], osl _ _ _ _ _ _, osl _ _ _ _ _ _] [_, _, _, _, _, _, _, _, _, _, _, _] rfl rfl rfl ?_; rw [ptrs_app, ← List.length_append]; refine JL_asApp (f := true) (l := o) (m := o53) am am ?_; refine JL_a ?_; refine JL_nu 122 [box _ _ [_, _, _], box _ _ [_, _, _], osl _ _ _ _ _ _, osl _ _ _ _ _ _, box _ _ [_, _, _], osl _ _ _ _ _ _, osl _ _ _ _ _ _] [_, _, _, _, _, _, _, _, _, _, _, _, _] ?_; refine JE_block_normal ?_; refine JE_then ?_; refine JC_region ?_; refine JL_add_to rfl rfl i6o ?_; refine JL_m ?_; refine JL_nv 122 ?_; refine JE_dropAt 6 ?_; refine JE_norm _ [box _ _ [_, _, _], box _ _ [_, _, _], osl _ _ _ _ _ _, osl _ _ _ _ _ _, box _ _ [_, _, _], osl _ _ _ _ _ _] [_, _, _, _, _, _, _, _, _, _, _, _, _] rfl rfl rfl ?_; refine JE_nextS (j + 1, o ++ o53, ad60, cap60) kr ?_ ?_ kr ?_
      · exact ⟨by omega, hP.step om om hl53, fun x hx => (List.mem_append.1 hx).elim (hF x) (hf53 x), by rw [nA_take om, nA_app]; omega⟩
      · first | omega | (dsimp only; omega)
      · exact subset_app (subset_cons am subset_nil) (ssS (ssS (ssS ss0)))
    ·refine JL_dv 122 ?_; refine JC_seq ?_; refine JC_false rfl ?_; refine JC_exit ?_; refine JE_then_exit ?_; refine JE_nextS_exit ?_; refine JE_block_exit ?_; refine JE_then ?_; refine JC_sr ?_; refine JL_m ?_; refine JL_idxArr 2 ar98 rfl rfl rfl (by decide) ?_; refine JL_load 4 ty57 rfl rfl rfl ?_; refine JL_give 3 rfl ?_; refine JL_norm _ [box _ _ [_, _, _], box _ _ [_, _, _], osl _ _ _ _ _ _, box _ _ [_, _, _], osl _ _ _ _ _ _] [_, _, _, _, _, _, _, _, _, _, _, _] rfl rfl rfl ?_; refine JL_asSub (f := true) (l := ks) (m := byA (mS R) 2 ks) am (fun x hx => byA_mem hx) ?_; refine JL_callA' true (AsksA.cons (holdsA_of_mem am) (AsksA.cons (holdsA_of_mem am) AsksA.nil)) (group_con hc2_33 (by have := byA_len (mS R) 2 ks; omega) (fun k hk => hf.kids k (byA_mem hk))) rfl ca35 ⟨rfl, rfl⟩ ?_; rintro _ _ ⟨o65, rfl, rfl, he65, hf65⟩; rw [optr_oad]
     have ho65 := one_grp he65
     refine JL_build1 sl57 rfl rfl (fun g66 => ?_); refine JL_callOL (σ1 := [box _ _ [_, _, _], box _ _ [_, _, _], osl _ _ _ _ _ _, box _ _ [_, _, _]]) (join_con (l := o) (o := o65) om ho65 (Nat.le_refl _)) rfl ca64 ⟨rfl, rfl, rfl⟩ ?_; rintro _ _ _ ⟨ad67, c67, rfl, hc67, rfl, rfl⟩; refine JL_norm _ [box _ _ [_, _, _], box _ _ [_, _, _], osl _ _ _ _ _ _, box _ _ [_, _, _], osl _ _ _ _ _ _] [_, _, _, _, _, _, _, _, _, _, _, _, _, _] rfl rfl rfl ?_; refine JL_asApp (f := true) (l := o) (m := o65) am am ?_; refine JL_a ?_; refine JL_a ?_; refine JL_du 122 [box _ _ [_, _, _], box _ _ [_, _, _], osl _ _ _ _ _ _, box _ _ [_, _, _], osl _ _ _ _ _ _] [_, _, _, _, _, _, _, _, _, _, _, _, _, _, _] ?_; refine JC_ret ?_; refine JE_then_ret ?_; refine JE_dropAt 3 ?_; refine JE_dropAt 2 ?_; refine JE_dropAt 1 ?_; refine JE_dropAt 0 ?_; refine JE_norm _ [osl _ _ _ _ _ _] [_, _, _, _, _, _, _, _, _, _, _, _, _, _, _] rfl rfl rfl ?_; refine JE_retO (vs := [_, _]) [vAs (o ++ o65)] Tryz.results63 ⟨rfl, rfl, rfl⟩ ?_ ?_ am am
     · exact ⟨o ++ o65, ad67, c67, true, rfl, hc67, rfl, rfl, fun x hx => (List.mem_append.1 hx).elim (hF x) (hf65 x), by rw [er_nd hks, hP.done om om hst he65]; rfl⟩
     · exact (all_cons am all_nil)
  ·have hcp := hf.cap
   have hln := hf.len
   refine JC_atOpen (f := true) (b := b) (n := n) (q := true) (ad := ad) (cap := cap) (ks := ks) am ?_; rw [er_nd hks] at hst; refine JC_region ?_; refine JL_m ?_; refine JL_nilCheckE rfl ?_; refine JL_fieldAddrE fo60_1 rfl rdg (show 0 < (ncells n true ad ks.length cap).length from Nat.zero_lt_succ _) ?_; refine JL_loadE ty4 rfl rdg rfl ?_; refine JL_not rfl ?_; rw [Bool.not_true]; refine JL_dv 122 ?_; refine JC_false rfl ?_; refine JC_skip ?_; refine JE_then ?_; refine JC_sr ?_; refine JL_m ?_; refine JL_nilCheckE rfl ?_; refine JL_fieldAddrE fo60_2 rfl rdg (show 0 < (ncells n true ad ks.length cap).length from Nat.zero_lt_succ _) ?_; refine JL_loadE ty57 rfl rdg rfl ?_; refine JL_a ?_; refine JL_dv 122 ?_; refine JC_seq ?_; refine JC_seq ?_; refine JC_drawT mixed 12 [spV 72 [] _, spV 73 [] _, spV 74 [1] _, spV 75 [2] _, spC 76 [0, 3] _, spV 77 [] _, spV 78 [] _, spV 79 [] _, spV 80 [7] _, spV 81 [8] _, spV 82 [6, 9] _, spV 83 [10] _] ⟨oM, oM, OblS_V (fun vals ex ψ => (by refine JL_normQ _ (_ :: _ :: _ :: _ :: _ :: _ :: _ :: ψ) rfl rfl ?_; refine JL_idx 0 sl57 rfl rfl rfl (List.length_pos_iff.2 hks) rdg (by rw [ptrs_length]; have := List.length_pos_iff.2 hks; omega) ?_; exact vz rfl)), OblS_V (fun vals ex ψ => (by refine JL_normQ _ (_ :: _ :: _ :: _ :: _ :: _ :: _ :: ψ) rfl rfl ?_; refine JL_loadE ty58 rfl rdg (ptrs_get (List.length_pos_iff.2 hks)) ?_; exact vz rfl)), OblS_C (fun vals ex ψ => (by
     refine JL_normQ ⟨122, [(72, _), (73, _), (74, _), (75, _), (76, _), (77, _), (78, _), (79, _), (80, _), (81, _), (82, _), (83, _)], _⟩ (_ :: _ :: _ :: _ :: _ :: _ :: _ :: ψ) rfl rfl ?_; refine JL_callF' (Asks.cons (holds_of_mem am) (Asks.cons (holds_of_mem am) Asks.nil)) (conAs (state_con hR (ks.getD 0 default) (hf.kids _ (at_mem (List.length_pos_iff.2 hks)))) (at_mem (List.length_pos_iff.2 hks))) rfl ca59 ⟨rfl, rfl, rfl⟩ ?_; exact fun v φo hP => JL_nil (JE_stepC φo rfl hP (fun p hp => mapB_l hp) (fun p hp => mapB_r (ss0 p hp))))), oM, oM, oM, OblS_V (fun vals ex ψ => (by refine JL_normQ _ (_ :: _ :: _ :: _ :: _ :: _ :: _ :: ψ) rfl rfl ?_; refine JL_len sl57 rfl ?_; exact vz rfl)), OblS_V (fun vals ex ψ => (by refine JL_sub_to rfl rfl i6o ?_; exact vz rfl)), OblS_V (fun vals ex ψ => (by refine JL_normQ _ (_ :: _ :: _ :: _ :: _ :: _ :: _ :: ψ) rfl rfl ?_; refine JL_idx (ks.length - 1) sl57 rfl rfl (by have := List.length_pos_iff.2 hks; omega) (by have := List.length_pos_iff.2 hks; omega) rdg (by rw [ptrs_length]; have := List.length_pos_iff.2 hks; omega) ?_; exact vz rfl)), OblS_V (fun vals ex ψ => (by refine JL_normQ _ (_ :: _ :: _ :: _ :: _ :: _ :: _ :: ψ) rfl rfl ?_; refine JL_loadE ty58 rfl rdg (ptrs_get (by have := List.length_pos_iff.2 hks; omega)) ?_; exact vz rfl)), trivial⟩ kr (fun vals bs => ?_)
   refine JL_normL [_, _] ⟨122, [(72, _), (73, _), (74, _), (75, _), (76, _), (77, _), (78, _), (79, _), (80, _), (81, _), (82, _), (83, _)], _⟩ [] [_, _, _, _, _, _, _, _] rfl rfl rfl rfl ?_; generalize vals (0 + 1 + 1 + 1 + 1) = x76; refine JL_usePost mm0 (fun φo hP => ?_); obtain ⟨rfl, rfl⟩ := hP; refine JL_norm _ [] [_, _, _, _, _, _, _, _] rfl rfl rfl ?_; refine JL_callF' (Asks.cons (holds_of_mem am) (Asks.cons (holds_of_mem am) Asks.nil)) (conAs (state_con hR (ks.getD (ks.length - 1) default) (hf.kids _ (at_mem (by have := List.length_pos_iff.2 hks; omega)))) (at_mem (by have := List.length_pos_iff.2 hks; omega))) rfl ca59 ⟨rfl, rfl, rfl⟩ ?_; rintro _ _ ⟨rfl, rfl⟩; refine JL_gtr rfl rfl ?_; refine JL_du 122 [] [_, _, _, _, _, _, _, _] ?_; refine JC_cutT ((Option Addr) × (Nat)) (fun (ad9, c9) => ks.length ≤ c9) (fun u (ad9, c9) => (rn 12 (some (.slice ad9 (kidsK (mS R) ks).length c9) :: rn 73 (sc u 86 2 [])))) (fun (ad9, c9) => []) (fun (ad9, c9) => [(true, vCells ad9 (ptrs (kidsK (mS R) ks)))]) ?_ ?_
   ·refine JC_cond rfl (fun hb => ?_) (fun hb => ?_)
    ·have h85 := of_decide_eq_true hb
     refine JC_region ?_; refine JL_m ?_; refine JL_callA' true (AsksA.cons (holdsA_of_mem am) AsksA.nil) (rev_con hln) rfl ca65 ⟨rfl, rfl⟩ ?_; rintro _ _ ⟨ad87, c87, rfl, hc87, rfl⟩; rw [← kidsK_t (S := mS R) hks om] at *; refine JL_a ?_; refine JL_nu 122 [] [_, _, _, _, _, _, _, _, _] ?_
     try rw [kidsK_f (S := mS R) hks om]
     refine JE_midS (ad87, c87) kr ?_ kr ?_
     · exact (by have := hc87.1; rw [kidsK_len] at this; exact this : ks.length ≤ c87)
     · exact subset_app (subset_cons am subset_nil) (ssS ss0)
    ·have h85 := of_decide_eq_false hb
     refine JC_skip ?_
     try rw [kidsK_f (S := mS R) hks om]
     refine JE_midS (ad, cap) kr ?_ kr ?_
     · exact hcp
     · exact subset_app (subset_cons am subset_nil) ss0
   intro u i hc9; obtain ⟨ad9, c9⟩ := i; refine JC_nm 122 [] [_, _, _, _, _, _, _, _, _] ?_; refine JC_sr ?_; refine JL_a ?_; refine JL_dv 122 ?_; refine JC_sr ?_; refine JL_a ?_; refine JL_dv 122 ?_; refine JC_seq ?_; refine JC_sr ?_; refine JL_m ?_; refine JL_len sl57 rfl ?_; refine JL_m ?_; refine JL_dv 122 ?_; refine JC_block ?_; refine JC_asNil ?_; refine JC_addNil 58 1 ?_; refine JC_nw [osl _ _ _ _ _ _] [_, _, _, _, _, _, _, _, _, _] ?_; refine JC_loopS ((Nat) × (Nat) × (List AT) × (Option Addr) × (Nat)) (fun (i, last, o, ad3, c3) => i ≤ (kidsK (mS R) ks).length ∧ LQ (mS R) (kidsK (mS R) ks) last i o ∧ (o.length ≤ c3 ∧ c3 ≤ 9223372036854775807)) (fun (i, last, o, ad3, c3) => (kidsK (mS R) ks).length - i) (fun u (i, last, o, ad3, c3) => (rn 4 (sc u 4 2 (rn 7 (some (.slice ad3 o.length c3) :: some (.int .i64 (last : Nat)) :: none :: sc u 16 4 (rn 70 (some (.int .i64 (i : Nat)) :: sc u 91 30 []))))))) (fun (i, last, o, ad3, c3) => [some (osl ad3 o.length c3 58 1 (ptrs o))]) (fun (i, last, o, ad3, c3) => [(true, vAs o)]) (0, 0, [], none, 0) kr ?_ kr ?_ ?_
   · exact ⟨Nat.zero_le _, LQ.zero _, Nat.le_refl _, by omega⟩
   · exact (subset_cons am subset_nil)
   intro u i hC; obtain ⟨i, last, o, ad3, c3⟩ := i; obtain ⟨hi, hQ, hc3⟩ := hC; refine JC_nm 122 [osl _ _ _ _ _ _] [_, _, _, _, _, _, _, _, _, _, _] ?_
   have hoL := nA_ge hQ.fit
   have hKl := kidsK_len (S := mS R) ks
   have hnK := kidsK_nA (S := mS R) ks
   have hbi := nA_le (kidsK (mS R) ks) i
   have hoN := hQ.len
   refine JC_sr ?_; refine JL_lss rfl rfl ?_; refine JL_split (fun h91 => ?_) (fun h91 => ?_)
   ·refine JL_dv 122 ?_; refine JC_seq ?_; refine JC_true rfl ?_; refine JC_skip ?_; refine JE_then ?_; refine JC_seq ?_; refine JC_block ?_; refine JC_sr ?_; refine JL_idx i sl57 rfl rfl rfl om rdg (by rw [ptrs_length]; omega) ?_; refine JL_loadE ty58 rfl rdg (ptrs_get om) ?_; refine JL_a ?_; refine JL_dv 122 ?_; refine JC_sr ?_; refine JL_m ?_; refine JL_m ?_; refine JL_callF' (Asks.cons (by first | exact holds_of_mem am | (exact holds_of_own 0 rfl)) (Asks.cons (by first | exact holds_of_mem am | (exact holds_of_own 0 rfl)) Asks.nil)) (conAs (state_con hR ((kidsK (mS R) ks).getD i default) (hf.kids _ (kidsK_mem (S := mS R) (at_mem (i := i) om)))) (kidsK_mem (S := mS R) (at_mem (i := i) om))) rfl ca59 ⟨rfl, rfl, rfl⟩ ?_; rintro _ _ ⟨rfl, rfl⟩; refine JL_a ?_; refine JL_du 122 [osl _ _ _ _ _ _] [_, _, _, _, _, _, _, _, _, _, _] ?_; refine JC_seq ?_; refine JC_sr ?_; refine JL_m ?_; refine JL_m ?_; refine JL_lss rfl rfl ?_
    refine JL_split (fun h99 => ?_) (fun h99 => ?_)
    ·refine JL_m ?_; refine JL_gn ?_; refine JL_gn ?_; refine JL_gn ?_; refine JL_guard_un rfl rfl ?_; refine JL_guard_un rfl rfl ?_; refine JL_gn ?_; refine JL_pick_t rfl rfl ?_; refine JL_dv 122 ?_; refine JC_true rfl ?_; refine JC_sr ?_; refine JL_a ?_; refine JL_a ?_; refine JL_dv 122 ?_; refine JC_ret ?_; refine JE_then_ret ?_; refine JE_block_ret ?_; refine JE_then_ret ?_; refine JE_nextS_ret ?_; refine JE_block_ret ?_; refine JE_then_ret ?_; refine JE_asNil ?_; refine JE_dropAt 0 ?_; refine JE_norm _ [] [_, _, _, _, _, _, _, _, _, _, _, _] rfl rfl rfl ?_; refine JE_addNil 58 1 ?_; refine JE_retO (vs := [_, _]) [vAs []] Tryz.results63 ⟨rfl, rfl, rfl⟩ ?_ ?_ am am
     · exact ⟨[], none, 0, false, rfl, ⟨Nat.le_refl _, by omega⟩, rfl, rfl, (fun _ h => by cases h), by rw [er_nd hks, lin_K hst, hQ.no om (.inl (.inl om))]; rfl⟩
     · exact (all_cons am all_nil)
    ·refine JL_m ?_; refine JL_gy ?_; refine JL_m ?_; refine JL_gy ?_; refine JL_eql rfl rfl ?_; refine JL_split (fun h102 => ?_) (fun h102 => ?_)
     ·refine JL_gy ?_; refine JL_m ?_; refine JL_gy ?_; refine JL_m ?_; refine JL_gy ?_; refine JL_eql rfl rfl ?_; refine JL_split (fun h105 => ?_) (fun h105 => ?_)
      ·refine JL_gy ?_; refine JL_pick_t rfl rfl ?_; refine JL_pick_f rfl rfl ?_; refine JL_dv 122 ?_; refine JC_true rfl ?_; refine JC_sr ?_; refine JL_a ?_; refine JL_a ?_; refine JL_dv 122 ?_; refine JC_ret ?_; refine JE_then_ret ?_; refine JE_block_ret ?_; refine JE_then_ret ?_; refine JE_nextS_ret ?_; refine JE_block_ret ?_; refine JE_then_ret ?_; refine JE_asNil ?_; refine JE_dropAt 0 ?_; refine JE_norm _ [] [_, _, _, _, _, _, _, _, _, _, _, _] rfl rfl rfl ?_; refine JE_addNil 58 1 ?_; refine JE_retO (vs := [_, _]) [vAs []] Tryz.results63 ⟨rfl, rfl, rfl⟩ ?_ ?_ am am
       · exact ⟨[], none, 0, false, rfl, ⟨Nat.le_refl _, by omega⟩, rfl, rfl, (fun _ h => by cases h), by rw [er_nd hks, lin_K hst, hQ.no om (.inl (.inr om))]; rfl⟩
       · exact (all_cons am all_nil)
      ·refine JL_gy ?_; refine JL_pick_t rfl rfl ?_; refine JL_pick_f rfl rfl ?_; refine JL_dv 122 ?_; refine JC_false rfl ?_; refine JC_skip ?_; refine JE_then ?_; refine JC_sr ?_; refine JL_m ?_; refine JL_a ?_; refine JL_dv 122 ?_; refine JC_sr ?_; refine JL_m ?_; refine JL_m ?_; refine JL_callO0 (AsksO.cons am (AsksO.cons am AsksO.nil)) (conAsO (IH ((kidsK (mS R) ks).getD i default) (kidsK_mem (S := mS R) (at_mem (i := i) om))) (kidsK_mem (S := mS R) (at_mem (i := i) om))) rfl ca63 ⟨rfl, rfl, rfl⟩ ?_; rintro _ _ _ ⟨o112, ad112, c112, b112, rfl, hc112, rfl, rfl, hf112, hl112⟩; refine JL_norm _ [osl _ _ _ _ _ _, osl _ _ _ _ _ _] [_, _, _, _, _, _, _, _, _, _, _, _] rfl rfl rfl ?_; refine JL_m ?_; refine JL_extract rfl rfl ?_; refine JL_extract rfl rfl ?_; refine JL_a ?_; refine JL_a ?_; refine JL_du 122 [osl _ _ _ _ _ _, osl _ _ _ _ _ _] [_, _, _, _, _, _, _, _, _, _, _, _] ?_; refine JC_seq ?_; refine JC_sr ?_; refine JL_m ?_; refine JL_not rfl ?_; refine JL_dv 122 ?_; refine JC_cond rfl (fun hb => ?_) (fun hb => ?_)
       ·have h116 := hb
        refine JC_sr ?_; refine JL_a ?_; refine JL_a ?_; refine JL_dv 122 ?_; refine JC_ret ?_; refine JE_then_ret ?_; refine JE_block_ret ?_; refine JE_then_ret ?_; refine JE_nextS_ret ?_; refine JE_block_ret ?_; refine JE_then_ret ?_; refine JE_asNil ?_; refine JE_dropAt 1 ?_; refine JE_dropAt 0 ?_; refine JE_norm _ [] [_, _, _, _, _, _, _, _, _, _, _, _, _] rfl rfl rfl ?_; refine JE_addNil 58 1 ?_; refine JE_retO (vs := [_, _]) [vAs []] Tryz.results63 ⟨rfl, rfl, rfl⟩ ?_ ?_ am am
        · exact ⟨[], none, 0, false, rfl, ⟨Nat.le_refl _, by omega⟩, rfl, rfl, (fun _ h => by cases h), by rw [er_nd hks, lin_K hst, hQ.no (i := i) om (.inr (by rw [hl112, show b112 = false from by cases b112 with | false => rfl | true => exact absurd h116 (by decide)]; rfl))]; rfl⟩
        · exact (all_cons am all_nil)
       ·have h116 := hb
        refine JC_skip ?_; refine JE_then ?_; refine JC_region ?_; refine JL_m ?_; refine JL_m ?_; obtain rfl : b112 = true := by cases b112 with | true => rfl | false => exact absurd h116 (by decide)
        replace hl112 : lin (mS R) (er ((kidsK (mS R) ks).getD i default)) = some (o112.map er) := hl112
        have hN112 : nA o112 = _ := lin_nl (hf.kids _ (kidsK_mem (S := mS R) (at_mem (i := i) om))).ok hl112
        have hoL2 := nA_ge hf112
        have hbj2 := nA_take (l := kidsK (mS R) ks) (i := i) om
        have hbj3 := nA_le (kidsK (mS R) ks) (i + 1)
        refine JL_append (news := ptrs o112) 0 sl57 rfl (by decide) rfl rfl rfl (by rw [ptrs_length, Nat.mul_one]) (Reads.own 1 rfl) (ptrs_one o112) om om (fun ad119 cap119 hc119 => ?_); refine JL_norm _ [osl _ _ _ _ _ _, osl _ _ _ _ _ _] [_, _, _, _, _, _, _, _, _, _, _, _] rfl rfl rfl ?_; rw [ptrs_app, ← List.length_append]; rw [← List.length_append] at hc119; refine JL_asApp (f := true) (l := o) (m := o112) am am ?_; refine JL_a ?_; refine JL_nu 122 [osl _ _ _ _ _ _, osl _ _ _ _ _ _] [_, _, _, _, _, _, _, _, _, _, _, _, _] ?_; refine JE_block_normal ?_; refine JE_then ?_; refine JC_region ?_; refine JL_add_to rfl rfl i6o ?_; refine JL_m ?_; refine JL_nv 122 ?_; refine JE_dropAt 1 ?_; refine JE_norm _ [osl _ _ _ _ _ _] [_, _, _, _, _, _, _, _, _, _, _, _, _] rfl rfl rfl ?_; refine JE_nextS (i + 1, st (mS R) (er ((kidsK (mS R) ks).getD i default)), o ++ o112, ad119, cap119) kr ?_ ?_ kr ?_
        · exact ⟨by omega, hQ.step om (hf.kids _ (kidsK_mem (S := mS R) (at_mem (i := i) om))).ok om om hl112 hf112, by omega⟩
        · first | omega | (dsimp only; omega)
        · exact subset_app (subset_cons am subset_nil) (ssS (ssS (ssS ss0)))
     ·refine JL_gy ?_; refine JL_m ?_; refine JL_gn ?_; refine JL_gn ?_; refine JL_gy ?_; refine JL_pick_f rfl rfl ?_; refine JL_pick_f rfl rfl ?_; refine JL_dv 122 ?_; refine JC_false rfl ?_; refine JC_skip ?_; refine JE_then ?_; refine JC_sr ?_; refine JL_m ?_; refine JL_a ?_; refine JL_dv 122 ?_; refine JC_sr ?_; refine JL_m ?_; refine JL_m ?_; refine JL_callO0 (AsksO.cons am (AsksO.cons am AsksO.nil)) (conAsO (IH ((kidsK (mS R) ks).getD i default) (kidsK_mem (S := mS R) (at_mem (i := i) om))) (kidsK_mem (S := mS R) (at_mem (i := i) om))) rfl ca63 ⟨rfl, rfl, rfl⟩ ?_; rintro _ _ _ ⟨o112, ad112, c112, b112, rfl, hc112, rfl, rfl, hf112, hl112⟩; refine JL_norm _ [osl _ _ _ _ _ _, osl _ _ _ _ _ _] [_, _, _, _, _, _, _, _, _, _, _, _] rfl rfl rfl ?_; refine JL_m ?_; refine JL_extract rfl rfl ?_; refine JL_extract rfl rfl ?_; refine JL_a ?_; refine JL_a ?_; refine JL_du 122 [osl _ _ _ _ _ _, osl _ _ _ _ _ _] [_, _, _, _, _, _, _, _, _, _, _, _] ?_; refine JC_seq ?_; refine JC_sr ?_; refine JL_m ?_; refine JL_not rfl ?_
      refine JL_dv 122 ?_; refine JC_cond rfl (fun hb => ?_) (fun hb => ?_)
      ·have h116 := hb
       refine JC_sr ?_; refine JL_a ?_; refine JL_a ?_; refine JL_dv 122 ?_; refine JC_ret ?_; refine JE_then_ret ?_; refine JE_block_ret ?_; refine JE_then_ret ?_; refine JE_nextS_ret ?_; refine JE_block_ret ?_; refine JE_then_ret ?_; refine JE_asNil ?_; refine JE_dropAt 1 ?_; refine JE_dropAt 0 ?_; refine JE_norm _ [] [_, _, _, _, _, _, _, _, _, _, _, _, _] rfl rfl rfl ?_; refine JE_addNil 58 1 ?_; refine JE_retO (vs := [_, _]) [vAs []] Tryz.results63 ⟨rfl, rfl, rfl⟩ ?_ ?_ am am
       · exact ⟨[], none, 0, false, rfl, ⟨Nat.le_refl _, by omega⟩, rfl, rfl, (fun _ h => by cases h), by rw [er_nd hks, lin_K hst, hQ.no (i := i) om (.inr (by rw [hl112, show b112 = false from by cases b112 with | false => rfl | true => exact absurd h116 (by decide)]; rfl))]; rfl⟩
       · exact (all_cons am all_nil)
      ·have h116 := hb
       refine JC_skip ?_; refine JE_then ?_; refine JC_region ?_; refine JL_m ?_; refine JL_m ?_; obtain rfl : b112 = true := by cases b112 with | true => rfl | false => exact absurd h116 (by decide)
       replace hl112 : lin (mS R) (er ((kidsK (mS R) ks).getD i default)) = some (o112.map er) := hl112
       have hN112 : nA o112 = _ := lin_nl (hf.kids _ (kidsK_mem (S := mS R) (at_mem (i := i) om))).ok hl112
       have hoL2 := nA_ge hf112
       have hbj2 := nA_take (l := kidsK (mS R) ks) (i := i) om
       have hbj3 := nA_le (kidsK (mS R) ks) (i + 1)
       refine JL_append (news := ptrs o112) 0 sl57 rfl (by decide) rfl rfl rfl (by rw [ptrs_length, Nat.mul_one]) (Reads.own 1 rfl) (ptrs_one o112) om om (fun ad119 cap119 hc119 => ?_); refine JL_norm _ [osl _ _ _ _ _ _, osl _ _ _ _ _ _] [_, _, _, _, _, _, _, _, _, _, _, _] rfl rfl rfl ?_; rw [ptrs_app, ← List.length_append]; rw [← List.length_append] at hc119; refine JL_asApp (f := true) (l := o) (m := o112) am am ?_; refine JL_a ?_; refine JL_nu 122 [osl _ _ _ _ _ _, osl _ _ _ _ _ _] [_, _, _, _, _, _, _, _, _, _, _, _, _] ?_; refine JE_block_normal ?_; refine JE_then ?_; refine JC_region ?_; refine JL_add_to rfl rfl i6o ?_; refine JL_m ?_; refine JL_nv 122 ?_; refine JE_dropAt 1 ?_; refine JE_norm _ [osl _ _ _ _ _ _] [_, _, _, _, _, _, _, _, _, _, _, _, _] rfl rfl rfl ?_; refine JE_nextS (i + 1, st (mS R) (er ((kidsK (mS R) ks).getD i default)), o ++ o112, ad119, cap119) kr ?_ ?_ kr ?_
       · exact ⟨by omega, hQ.step om (hf.kids _ (kidsK_mem (S := mS R) (at_mem (i := i) om))).ok om om hl112 hf112, by omega⟩
       · first | omega | (dsimp only; omega)
       · exact subset_app (subset_cons am subset_nil) (ssS (ssS (ssS ss0)))
   ·refine JL_dv 122 ?_; refine JC_seq ?_; refine JC_false rfl ?_; refine JC_exit ?_; refine JE_then_exit ?_; refine JE_nextS_exit ?_; refine JE_block_exit ?_; refine JE_then ?_; refine JC_sr ?_; refine JL_m ?_; refine JL_a ?_; refine JL_a ?_; refine JL_dv 122 ?_; refine JC_ret ?_; refine JE_retO (vs := [_, _]) [vAs o] Tryz.results63 ⟨rfl, rfl, rfl⟩ ?_ ?_ am am
    · exact ⟨o, ad3, c3, true, rfl, hc3, rfl, rfl, hQ.fit, by rw [er_nd hks, lin_K hst, hQ.done om]; rfl⟩
    · exact (all_cons am all_nil)

theorem lin_con {mb : Nat} {R : List (Int × Bool)} (hR : (R.map (·.1)).Nodup) (t : AT) : Fit t → (lvs (er t)).length ≤ 1000 → ConO Tryz.prog 63 [.map (some mb), ptr t] [] [vMap mb (mE iv bv R 0) R.length, vA t] (fun v rout φo => ∃ (o : List AT) (ad3 : Option Addr) (c3 : Nat) (b3 : Bool), v = .tuple #[.slice ad3 o.length c3, .bool b3] ∧ (o.length ≤ c3 ∧ c3 ≤ 9223372036854775807) ∧ rout = [osl ad3 o.length c3 58 1 (ptrs o)] ∧ φo = [vAs o] ∧ (∀ x ∈ o, Fit x) ∧ lin (mS R) (er (t)) = (if b3 then some (o.map er) else none)) := by
  induction t using AT.ind with
  | h b n q ad cap ks ih => exact fun hf hL => lin_con0 hR hf hL fun k hk => ih k hk (hf.kids k hk) (by
      have h1 : ks ≠ [] := fun e => by rw [e] at hk; cases hk
      rw [nA_nd h1] at hL
      have := nA_mem hk
      omega)

theorem wcl_con {mb : Nat} {R : List (Int × Bool)} (hR : (R.map (·.1)).Nodup) {t : AT} (hf : Fit t) {adu : Option Addr} :
    ConF Tryz.prog 99 [ptr t, ptrAt adu 0] [vCells adu [.map (some mb)], vMap mb (mE iv bv R 0) R.length, vA t]
      (fun v φo => v = .bool (decide (st (mS R) (er (t)) ≠ 0)) ∧ φo = []) := by
 refine ConF_of Tryz.func99 rfl 8 (_ :: _ :: rp 6) rfl rfl ?_; intro w0; refine JC_st [] [_, _, _] ?_; refine JC_sr ?_; refine JL_a ?_; refine JL_dv 8 ?_; refine JC_sr ?_; refine JL_loadE ty72 rfl rdg rfl ?_; refine JL_m ?_; refine JL_callF' (Asks.cons (holds_of_mem am) (Asks.cons (holds_of_mem am) Asks.nil)) (state_con hR t hf) rfl ca59 ⟨rfl, rfl, rfl⟩ ?_; rintro _ _ ⟨rfl, rfl⟩; refine JL_neq rfl rfl ?_; refine JL_a ?_; refine JL_du 8 [] [_, _, _] ?_; refine JC_ret ?_; refine JE_ret (vs := [_]) [] Tryz.results99 ⟨rfl, rfl⟩ ?_ ?_
 · exact ⟨congrArg Value.bool (decide_eq_decide.2 om), rfl⟩
 · exact all_nil

set_option maxHeartbeats 2000000 in
theorem within_con {mb : Nat} {R : List (Int × Bool)} (hR : (R.map (·.1)).Nodup) {b n : Nat} {q : Bool} {ad : Option Addr} {cap : Nat} {ks : List AT} (hf : Fit (.mk b n q ad cap ks)) {l : Nat} (hL : (lvs (er (.mk b n q ad cap ks))).length ≤ 1000) (hs : some_ (mS R) (ks.map er) ≠ 0) (hks : ks ≠ []) :
    ConA Tryz.prog 61 [.map (some mb), nptr b, .int .i64 (l : Nat)] [vMap mb (mE iv bv R 0) R.length, vA (.mk b n q ad cap ks)]
      (fun v φo => ∃ (p : Option Addr) (b3 : Bool) (o : List AT), v = .tuple #[.pointer p, .bool b3] ∧ φo = [vAs o] ∧ RD p b3 o ((wthL (mS R) (Pq.firstI (mS R) (ks.map er)) l 0 (ks.map er)).map fun z => (lne z).headD default)) := by
 have hL2 : nA ks ≤ 1000 := by rw [← nA_nd hks]; exact hL
 refine ConA_of Tryz.func61 rfl 73 (_ :: _ :: _ :: rp 70) rfl rfl ?_; intro w0; refine JC_st [] [_, _] ?_; refine JC_sr ?_; refine JL_box rfl rfl (fun b3 => ?_); refine JL_a ?_; refine JL_a ?_; refine JL_du 73 [box _ _ [_]] [_, _] ?_; refine JC_sr ?_; refine JL_a ?_; refine JL_dv 73 ?_; refine JC_seq ?_
 have hcp := hf.cap
 have hln := hf.len
 refine JC_atOpen (f := true) (b := b) (n := n) (q := q) (ad := ad) (cap := cap) (ks := ks) am ?_; refine JC_region ?_; refine JL_m ?_; refine JL_nilCheckE rfl ?_; refine JL_fieldAddrE fo60_2 rfl rdg (show 0 < (ncells n q ad ks.length cap).length from Nat.zero_lt_succ _) ?_; refine JL_loadE ty57 rfl rdg rfl ?_; refine JL_makeFunc (vs := [_]) ⟨rfl, rfl⟩ ?_
 refine JL_callF' (Asks.cons (holds_of_mem am) (Asks.cons (Asks.list (l := [vCells (some ⟨b3, 0, none⟩) [.map (some mb)], vMap mb (mE iv bv R 0) R.length, vAs ks]) (Asks.cons (holds_of_box 0 rfl) (Asks.cons (holds_of_mem am) (Asks.cons (holds_of_mem am) Asks.nil)))) Asks.nil)) (idxN_con (xs := ptrs ks) (ptrs_length ks) (f := 99) (caps := [.pointer (some ⟨b3, 0, none⟩)]) (vc := vList [vCells (some ⟨b3, 0, none⟩) [.map (some mb)], vMap mb (mE iv bv R 0) R.length, vAs ks]) kr (fun k => decide (st (mS R) (er (ks.getD k default)) ≠ 0)) (by rw [ptrs_length]; omega) (fun k hk => by rw [ptrs_length] at hk; rw [ptrs_getD hk]; exact ConF.ofList (ps := []) (conAs3 (wcl_con (adu := (some ⟨b3, 0, none⟩)) hR (hf.kids _ (at_mem hk))) (at_mem hk)))) rfl ca98 ⟨rfl, rfl, rfl⟩ ?_; rintro _ _ ⟨r19, rfl, rfl, hr19⟩; refine JL_a ?_; refine JL_du 73 [box _ _ [_]] [_, _, _, _, _] ?_; refine JC_seq ?_; refine JC_seq ?_; obtain ⟨f, hf0, hfr, hf1, hf2⟩ := hr19.resolve_left (fun e => hs (some_zero.2 fun k hk => by
   obtain ⟨x, hx, rfl⟩ := List.mem_map.1 hk; obtain ⟨j, hj, rfl⟩ := List.mem_iff_getElem.1 hx
   have := of_decide_eq_false (e.2 j hj)
   rw [List.getD_eq_getElem?_getD, List.getElem?_eq_getElem hj] at this
   simpa using this))
 subst hfr
 have hfi : (Pq.firstI (mS R) (ks.map er)) = f := firstI_eq hf0 (of_decide_eq_true hf1) (fun j hj => by simpa using hf2 j hj)
 refine JC_region ?_; refine JL_m ?_; refine JL_nilCheckE rfl ?_; refine JL_fieldAddrE fo60_2 rfl rdg (show 0 < (ncells n q ad ks.length cap).length from Nat.zero_lt_succ _) ?_; refine JL_loadE ty57 rfl rdg rfl ?_; refine JL_len sl57 rfl ?_; refine JL_m ?_; refine JL_dv 73 ?_; refine JC_block ?_; refine JC_asNil ?_; refine JC_addNil 58 1 ?_; refine JC_nw [box _ _ [_], osl _ _ _ _ _ _] [_, _, _, _, _, _] ?_; refine JC_loopS ((Nat) × (List AT) × (Option Addr) × (Nat)) (fun (i, o, ad3, c3) => i ≤ ks.length ∧ WQ (mS R) ks f l i o ∧ (o.length ≤ c3 ∧ c3 ≤ 9223372036854775807)) (fun (i, o, ad3, c3) => ks.length - i) (fun u (i, o, ad3, c3) => (rn 6 (sc u 6 2 (some (.slice ad3 o.length c3) :: none :: sc u 10 4 (rn 11 (some (.int .i64 (i : Nat)) :: sc u 26 45 [])))))) (fun (i, o, ad3, c3) => (none :: [some (osl ad3 o.length c3 58 1 (ptrs o))])) (fun (i, o, ad3, c3) => [(true, vAs o)]) (0, [], none, 0) kr ?_ kr ?_ ?_
 · exact ⟨Nat.zero_le _, WQ.zero _ _ _, Nat.le_refl _, by omega⟩
 · exact (subset_cons am subset_nil)
 intro u i hC; obtain ⟨i, o, ad3, c3⟩ := i; obtain ⟨hi, hQ, hc3⟩ := hC; refine JC_nm 73 [box _ _ [_], osl _ _ _ _ _ _] [_, _, _, _, _, _, _] ?_
 have hoL := nA_ge hQ.fit
 have hbi := nA_le ks i
 have hoN := hQ.len
 refine JC_sr ?_; refine JL_lss rfl rfl ?_; refine JL_split (fun h26 => ?_) (fun h26 => ?_)
 ·refine JL_dv 73 ?_; refine JC_seq ?_; refine JC_true rfl ?_; refine JC_skip ?_; refine JE_then ?_; refine JC_seq ?_; refine JC_block ?_; refine JC_sr ?_; refine JL_m ?_; refine JL_idx i sl57 rfl rfl rfl om rdg (by rw [ptrs_length]; omega) ?_; refine JL_loadE ty58 rfl rdg (ptrs_get om) ?_; refine JL_a ?_; refine JL_a ?_; refine JL_dv 73 ?_; refine JC_seq ?_; refine JC_seq ?_; refine JC_cutT ((Bool)) (fun (bb : Bool) => bb = decide (f < i ∧ i < l ∧ st (mS R) (er (ks.getD i default)) ≠ 2)) (fun u (bb : Bool) => (rn 30 (sc u 30 13 [some (.bool bb)]))) (fun (bb : Bool) => []) (fun (bb : Bool) => []) ?_ ?_
  ·refine JC_region ?_; refine JL_m ?_; refine JL_m ?_; refine JL_gtr rfl rfl ?_; refine JL_split (fun h32 => ?_) (fun h32 => ?_)
   ·refine JL_m ?_; refine JL_gy ?_; refine JL_m ?_; refine JL_gy ?_; refine JL_m ?_; refine JL_gy ?_; refine JL_lss rfl rfl ?_; refine JL_split (fun h36 => ?_) (fun h36 => ?_)
    ·refine JL_pick_t rfl rfl ?_; refine JL_m ?_; refine JL_gy ?_; refine JL_load 0 ty72 rfl rfl rfl ?_; refine JL_gy ?_; refine JL_m ?_; refine JL_gy ?_; refine JL_callF' (Asks.cons (by first | exact holds_of_mem am | (exact holds_of_own 1 rfl)) (Asks.cons (by first | exact holds_of_mem am | (exact holds_of_own 1 rfl)) Asks.nil)) (conAs (state_con hR (ks.getD i default) (hf.kids _ (at_mem (i := i) om))) (at_mem (i := i) om)) rfl ca59 ⟨rfl, rfl, rfl⟩ ?_; rintro _ _ ⟨rfl, rfl⟩; refine JL_gy ?_; refine JL_neq rfl rfl ?_; refine JL_split (fun h42 => ?_) (fun h42 => ?_)
     ·refine JL_pick_t rfl rfl ?_; refine JL_nu 73 [box _ _ [_], osl _ _ _ _ _ _] [_, _, _, _, _, _, _] ?_; refine JE_midS (true) kr ?_ kr ?_
      · exact (decide_eq_true ⟨by omega, by omega, fun e => h42 (by rw [e]; rfl)⟩).symm
      · exact subset_app subset_nil ss0
     ·refine JL_pick_t rfl rfl ?_; refine JL_nu 73 [box _ _ [_], osl _ _ _ _ _ _] [_, _, _, _, _, _, _] ?_; refine JE_midS (false) kr ?_ kr ?_
      · exact (decide_eq_false fun h => h.2.2 om).symm
      · exact subset_app subset_nil ss0
    ·refine JL_pick_t rfl rfl ?_; refine JL_m ?_; refine JL_gn ?_; refine JL_gn ?_; refine JL_gn ?_; refine JL_gn ?_; refine JL_pick_f rfl rfl ?_; refine JL_nv 73 ?_; refine JE_midS (false) kr ?_ kr ?_
     · exact (decide_eq_false fun h => by omega).symm
     · exact subset_app subset_nil ss0
   ·refine JL_m ?_; refine JL_gn ?_; refine JL_gn ?_; refine JL_gn ?_; refine JL_pick_f rfl rfl ?_; refine JL_m ?_; refine JL_gn ?_; refine JL_gn ?_; refine JL_gn ?_; refine JL_gn ?_; refine JL_pick_f rfl rfl ?_; refine JL_nv 73 ?_; refine JE_midS (false) kr ?_ kr ?_
    · exact (decide_eq_false fun h => by omega).symm
    · exact subset_app subset_nil ss0
  intro u bb hbb; refine JC_nm 73 [box _ _ [_], osl _ _ _ _ _ _] [_, _, _, _, _, _, _] ?_; refine JC_cond rfl (fun hb => ?_) (fun hb => ?_)
  ·have h43 := hb
   refine JC_sr ?_; refine JL_a ?_; refine JL_a ?_; refine JL_dv 73 ?_; refine JC_ret ?_; refine JE_then_ret ?_; refine JE_block_ret ?_; refine JE_then_ret ?_; refine JE_nextS_ret ?_; refine JE_block_ret ?_; refine JE_then_ret ?_; refine JE_asNil ?_; refine JE_ret (vs := [_, _]) [vAs []] Tryz.results61 ⟨rfl, rfl, rfl⟩ ?_ ?_
   · exact ⟨none, false, [], rfl, rfl, RD.not (by rw [hfi, hQ.no om (.inl (by rw [h43] at hbb; exact of_decide_eq_true hbb.symm))]; rfl)⟩
   · exact (all_cons am all_nil)
  ·have h43 := hb
   refine JC_skip ?_; refine JE_then ?_; refine JC_sr ?_; refine JL_m ?_; refine JL_build1 sl57 rfl rfl (fun g45 => ?_); refine JL_norm _ [box _ _ [_], osl _ _ _ _ _ _, osl _ _ _ _ _ (ptrs [ks.getD i default])] [_, _, _, _, _, _, _] rfl rfl rfl ?_; refine JL_asSub (f := true) (l := ks) (m := [ks.getD i default]) am (fun x hx => by rw [List.mem_singleton.1 hx]; exact (at_mem (i := i) om)) ?_; refine JL_give 2 rfl ?_; refine JL_norm _ [box _ _ [_], osl _ _ _ _ _ _] [_, _, _, _, _, _, _, _, _] rfl rfl rfl ?_; refine JL_a ?_; refine JL_a ?_; refine JL_du 73 [box _ _ [_], osl _ _ _ _ _ _] [_, _, _, _, _, _, _, _, _] ?_; refine JC_seq ?_; refine JC_seq ?_; refine JC_cutT ((Bool)) (fun (b2 : Bool) => b2 = decide (i = f ∨ i = l)) (fun u (b2 : Bool) => (rn 46 (sc u 46 7 [some (.bool b2)]))) (fun (b2 : Bool) => []) (fun (b2 : Bool) => []) ?_ ?_
   ·refine JC_region ?_; refine JL_m ?_; refine JL_m ?_; refine JL_eql rfl rfl ?_; refine JL_split (fun h48 => ?_) (fun h48 => ?_)
    ·refine JL_m ?_; refine JL_gn ?_; refine JL_gn ?_; refine JL_gn ?_; refine JL_pick_t rfl rfl ?_; refine JL_nv 73 ?_; refine JE_midS (true) kr ?_ kr ?_
     · exact (decide_eq_true (.inl om)).symm
     · exact subset_app subset_nil ss0
    ·refine JL_m ?_; refine JL_gy ?_; refine JL_m ?_; refine JL_gy ?_; refine JL_m ?_; refine JL_gy ?_; refine JL_eql rfl rfl ?_; refine JL_pick_f rfl rfl ?_; refine JL_nv 73 ?_; refine JE_midS (decide ((i : Int) = (l : Int))) kr ?_ kr ?_
     · exact decide_eq_decide.2 ⟨fun h => .inr om, fun h => by omega⟩
     · exact subset_app subset_nil ss0
   intro u b2 hb2; refine JC_nm 73 [box _ _ [_], osl _ _ _ _ _ _] [_, _, _, _, _, _, _, _, _] ?_; refine JC_cutT ((List AT) × (Option Addr) × (Nat) × (Bool)) (fun (p, adp, cp, bp) => (if i = f ∨ i = l then lin (mS R) (er (ks.getD i default)) else some [er (ks.getD i default)]) = (if bp then some (p.map er) else none) ∧ ∀ x ∈ p, Fit x) (fun u (p, adp, cp, bp) => (rn 12 (some (.slice adp p.length cp) :: some (.bool bp) :: rn 40 (sc u 54 6 [])))) (fun (p, adp, cp, bp) => []) (fun (p, adp, cp, bp) => [(true, vCells adp (ptrs p)), (true, vAs p)]) ?_ ?_
   ·refine JC_cond rfl (fun hb => ?_) (fun hb => ?_)
    ·have h53 := hb
     refine JC_region ?_; refine JL_load 0 ty72 rfl rfl rfl ?_; refine JL_m ?_; refine JL_callO0 (AsksO.cons am (AsksO.cons am AsksO.nil)) (conAsO (lin_con hR (ks.getD i default) (hf.kids _ (at_mem (i := i) om)) (by have := nA_mem (at_mem (l := ks) (i := i) om); omega)) (at_mem (i := i) om)) rfl ca63 ⟨rfl, rfl, rfl⟩ ?_; rintro _ _ _ ⟨o57, ad57, c57, b57, rfl, hc57, rfl, rfl, hf57, hl57⟩; refine JL_norm _ [box _ _ [_], osl _ _ _ _ _ _, osl _ _ _ _ _ _] [_, _, _, _, _, _, _, _, _, _] rfl rfl rfl ?_; refine JL_m ?_; refine JL_extract rfl rfl ?_; refine JL_give 2 rfl ?_; refine JL_norm _ [box _ _ [_], osl _ _ _ _ _ _] [_, _, _, _, _, _, _, _, _, _, _] rfl rfl rfl ?_; refine JL_extract rfl rfl ?_; refine JL_a ?_; refine JL_a ?_; refine JL_nu 73 [box _ _ [_], osl _ _ _ _ _ _] [_, _, _, _, _, _, _, _, _, _, _] ?_; refine JE_midS (o57, ad57, c57, b57) kr ?_ kr ?_
     · exact ⟨by rw [if_pos (by simpa [h53] using hb2)]; exact hl57, hf57⟩
     · exact subset_app (subset_cons am (subset_cons am subset_nil)) (ssS (ssS ss0))
    ·have h53 := hb
     refine JC_skip ?_; refine JE_midS ([ks.getD i default], some ⟨g45, 0, none⟩, 1, true) kr ?_ kr ?_
     · exact ⟨by rw [if_neg (by simpa [h53] using hb2)]; rfl, fun x hx => by rw [List.mem_singleton.1 hx]; exact hf.kids _ (at_mem (i := i) om)⟩
     · exact subset_app (subset_cons am (subset_cons am subset_nil)) ss0
   intro u i hC; obtain ⟨p, adp, cp, bp⟩ := i; obtain ⟨hlp, hpF⟩ := hC; refine JC_nm 73 [box _ _ [_], osl _ _ _ _ _ _] [_, _, _, _, _, _, _, _, _, _, _] ?_; refine JC_seq ?_; refine JC_sr ?_; refine JL_m ?_; refine JL_not rfl ?_; refine JL_dv 73 ?_; refine JC_cond rfl (fun hb => ?_) (fun hb => ?_)
   ·have h61 := hb
    refine JC_sr ?_; refine JL_a ?_; refine JL_a ?_; refine JL_dv 73 ?_; refine JC_ret ?_; refine JE_then_ret ?_; refine JE_block_ret ?_; refine JE_then_ret ?_; refine JE_nextS_ret ?_; refine JE_block_ret ?_; refine JE_then_ret ?_; refine JE_asNil ?_; refine JE_ret (vs := [_, _]) [vAs []] Tryz.results61 ⟨rfl, rfl, rfl⟩ ?_ ?_
    · exact ⟨none, false, [], rfl, rfl, RD.not (by rw [hfi, hQ.no2 om (by rw [hlp, show bp = false from by cases bp with | false => rfl | true => exact absurd h61 (by decide)]; rfl)]; rfl)⟩
    · exact (all_cons am all_nil)
   ·have h61 := hb
    refine JC_skip ?_; refine JE_then ?_; refine JC_seq ?_; refine JC_sr ?_; refine JL_m ?_; refine JL_m ?_; refine JL_eql rfl rfl ?_; refine JL_dv 73 ?_; refine JC_cutT ((List AT) × (Option Addr) × (Nat)) (fun (p', adq, cq) => p' = if i = l then p.reverse else p) (fun u (p', adq, cq) => (rn 12 (some (.slice adq p'.length cq) :: rn 52 (sc u 65 2 [])))) (fun (p', adq, cq) => []) (fun (p', adq, cq) => [(true, vCells adq (ptrs p'))]) ?_ ?_
    ·refine JC_cond rfl (fun hb => ?_) (fun hb => ?_)
     ·have h64 := of_decide_eq_true hb
      refine JC_region ?_; obtain rfl : bp = true := by cases bp with | true => rfl | false => exact absurd h61 (by decide)
      replace hlp : _ = some (p.map er) := hlp
      have hpN : nA p = (lvs (er (ks.getD i default))).length := by
        split at hlp
        · exact lin_nl (hf.kids _ (at_mem (i := i) om)).ok hlp
        · unfold nA; rw [← Option.some.inj hlp, nl_one]
      have hpl : p.length ≤ 1000 := by have := nA_ge hpF; have := nA_mem (at_mem (l := ks) (i := i) om); omega
      refine JL_m ?_; refine JL_callA' true (AsksA.cons (holdsA_of_mem am) AsksA.nil) (rev_con (ks := p) hpl) rfl ca65 ⟨rfl, rfl⟩ ?_; rintro _ _ ⟨ad66, c66, rfl, hc66, rfl⟩; refine JL_a ?_; refine JL_nu 73 [box _ _ [_], osl _ _ _ _ _ _] [_, _, _, _, _, _, _, _, _, _, _, _] ?_; refine JE_midS (p.reverse, ad66, c66) kr ?_ kr ?_
      · exact (if_pos om).symm
      · exact subset_app (subset_cons am subset_nil) (ssS ss0)
     ·have h64 := of_decide_eq_false hb
      refine JC_skip ?_; refine JE_midS (p, adp, cp) kr ?_ kr ?_
      · exact (if_neg om).symm
      · exact subset_app (subset_cons am subset_nil) ss0
    intro u i hp2; obtain ⟨p', adq, cq⟩ := i; refine JC_nm 73 [box _ _ [_], osl _ _ _ _ _ _] [_, _, _, _, _, _, _, _, _, _, _, _] ?_; refine JC_region ?_; refine JL_m ?_; refine JL_m ?_; obtain rfl : bp = true := by cases bp with | true => rfl | false => exact absurd h61 (by decide)
    replace hlp : _ = some (p.map er) := hlp
    have hpN : nA p = (lvs (er (ks.getD i default))).length := by
      split at hlp
      · exact lin_nl (hf.kids _ (at_mem (i := i) om)).ok hlp
      · unfold nA; rw [← Option.some.inj hlp, nl_one]
    have hpl : p.length ≤ 1000 := by have := nA_ge hpF; have := nA_mem (at_mem (l := ks) (i := i) om); omega
    have hpm : ∀ x ∈ p', x ∈ p := by subst hp2; split <;> simp
    have hpl' : p'.length = p.length := by subst hp2; split <;> simp
    refine JL_append (news := ptrs p') 1 sl57 rfl (by decide) rfl rfl rfl (by rw [ptrs_length, Nat.mul_one]) (Reads.view am) (ptrs_one p') om om (fun ad69 cap69 hc69 => ?_); refine JL_norm _ [box _ _ [_], osl _ _ _ _ _ _] [_, _, _, _, _, _, _, _, _, _, _, _] rfl rfl rfl ?_; rw [ptrs_app, ← List.length_append]; rw [← List.length_append] at hc69; refine JL_asSub (f := true) (l := p) (m := p') am hpm ?_; refine JL_asApp (f := true) (l := o) (m := p') am am ?_; refine JL_a ?_; refine JL_nu 73 [box _ _ [_], osl _ _ _ _ _ _] [_, _, _, _, _, _, _, _, _, _, _, _, _, _] ?_; refine JE_block_normal ?_; refine JE_then ?_; refine JC_region ?_; refine JL_add_to rfl rfl i6o ?_; refine JL_m ?_; refine JL_nv 73 ?_; refine JE_nextS (i + 1, o ++ p', ad69, cap69) kr ?_ ?_ kr ?_
    · exact ⟨by omega, hQ.step om (hf.kids _ (at_mem (i := i) om)).ok (fun hn => by rw [decide_eq_true hn] at hbb; subst hbb; exact absurd h43 (by decide)) hlp hpF hp2, by omega⟩
    · first | omega | (dsimp only; omega)
    · exact subset_app (subset_cons am subset_nil) (ssS (ssS (ssS (ssS (ssS (ssS (ssS (ssS ss0))))))))
 ·refine JL_dv 73 ?_; refine JC_seq ?_; refine JC_false rfl ?_; refine JC_exit ?_; refine JE_then_exit ?_; refine JE_nextS_exit ?_; refine JE_block_exit ?_; refine JE_then ?_; refine JC_sr ?_; refine JL_m ?_; refine JL_give 1 rfl ?_; refine JL_norm _ [box _ _ [_]] [_, _, _, _, _, _, _, _] rfl rfl rfl ?_
  have hoL := nA_ge hQ.fit
  have hbi := nA_le ks i
  have hoN := hQ.len
  refine JL_callA' true (AsksA.cons (holdsA_of_mem am) (AsksA.cons (holdsA_of_mem am) AsksA.nil)) (line_con hc3.1 om hQ.fit) rfl ca66 ⟨rfl, rfl⟩ ?_; rintro _ _ ⟨o72, rfl, rfl, he72, hf72⟩; rw [optr_oad]; refine JL_a ?_; refine JL_a ?_; refine JL_du 73 [box _ _ [_]] [_, _, _, _, _, _, _, _, _] ?_; refine JC_ret ?_; refine JE_ret (vs := [_, _]) [vAs o72] Tryz.results61 ⟨rfl, rfl, rfl⟩ ?_ ?_
  · exact ⟨oad o72, true, o72, rfl, rfl, RD.of hf72 he72 (lne_one (hQ.ne om hf.kids hks)) (by rw [hfi, hQ.done om]; rfl)⟩
  · exact (all_cons am all_nil)

set_option maxHeartbeats 2000000 in
set_option maxRecDepth 20000 in
theorem red_con0 {mb : Nat} {R : List (Int × Bool)} (hR : (R.map (·.1)).Nodup) {b n : Nat} {q : Bool} {ad : Option Addr} {cap : Nat} {ks : List AT} (hf : Fit (.mk b n q ad cap ks)) (hL : (lvs (er (.mk b n q ad cap ks))).length ≤ 1000) (h0 : st (mS R) (er (.mk b n q ad cap ks)) ≠ 0)
    (IH : ∀ k ∈ ks, st (mS R) (er k) ≠ 0 → ConA Tryz.prog 38 [.map (some mb), ptr k] [vMap mb (mE iv bv R 0) R.length, vA k] (fun v φo => ∃ (p : Option Addr) (b3 : Bool) (o : List AT), v = .tuple #[.pointer p, .bool b3] ∧ φo = [vAs o] ∧ RD p b3 o (red (mS R) (er k)))) :
    ConA Tryz.prog 38 [.map (some mb), nptr b] [vMap mb (mE iv bv R 0) R.length, vA (.mk b n q ad cap ks)]
      (fun v φo => ∃ (p : Option Addr) (b3 : Bool) (o : List AT), v = .tuple #[.pointer p, .bool b3] ∧ φo = [vAs o] ∧ RD p b3 o (red (mS R) (er (.mk b n q ad cap ks)))) := by
 refine ConA_of Tryz.func38 rfl 138 (_ :: _ :: rp 136) rfl rfl ?_; intro w0; refine JC_st [] [_, _] ?_; refine JC_sr ?_; refine JL_a ?_; refine JL_a ?_; refine JL_dv 138 ?_; refine JC_seq ?_; refine JC_sr ?_; refine JL_m ?_; refine JL_m ?_; refine JL_callF' (Asks.cons (holds_of_mem am) (Asks.cons (holds_of_mem am) Asks.nil)) (state_con hR (.mk b n q ad cap ks) hf) rfl ca59 ⟨rfl, rfl, rfl⟩ ?_; rintro _ _ ⟨rfl, rfl⟩; refine JL_eql rfl rfl ?_; refine JL_split (fun h22 => ?_) (fun h22 => ?_)
 ·refine JL_du 138 [] [_, _] ?_; refine JC_true rfl ?_; refine JC_sr ?_; refine JL_m ?_; refine JL_a ?_; refine JL_a ?_; refine JL_dv 138 ?_; refine JC_ret ?_; refine JE_then_ret ?_; refine JE_asOne (f := true) (t := .mk b n q ad cap ks) am ?_; refine JE_ret (vs := [_, _]) [vAs [.mk b n q ad cap ks]] Tryz.results38 ⟨rfl, rfl, rfl⟩ ?_ ?_
  · exact ⟨_, true, [.mk b n q ad cap ks], rfl, rfl, RD.same hf (by
    by_cases c : ks = []
    · subst c; rfl
    · rw [er_nd c] at *; rw [red_nd, if_pos om])⟩
  · exact (all_cons am all_nil)
 ·have h2 : st (mS R) (er (.mk b n q ad cap ks)) ≠ 2 := fun e => h22 (by rw [e]; rfl)
  have hks := one_ne (show st (mS R) (er (.mk b n q ad cap ks)) = 1 from by have := st_le (mS R) (er (.mk b n q ad cap ks)); omega)
  have hL2 : nA ks ≤ 1000 := by rw [← nA_nd hks]; exact hL
  have hs0 : some_ (mS R) (ks.map er) ≠ 0 := some_ne (q := q) (by rw [← er_nd (b := b) (n := n) (ad := ad) (cap := cap) hks]; exact h0) (by simpa using hks)
  refine JL_du 138 [] [_, _] ?_; refine JC_false rfl ?_; refine JC_skip ?_; refine JE_then ?_; refine JC_sr ?_; refine JL_a ?_; refine JL_dv 138 ?_; refine JC_sr ?_; refine JL_a ?_; refine JL_dv 138 ?_; refine JC_seq ?_; refine JC_seq ?_
  have hcp := hf.cap
  have hln := hf.len
  refine JC_atOpen (f := true) (b := b) (n := n) (q := q) (ad := ad) (cap := cap) (ks := ks) am ?_; refine JC_region ?_; refine JL_m ?_; refine JL_nilCheckE rfl ?_; refine JL_fieldAddrE fo60_2 rfl rdg (show 0 < (ncells n q ad ks.length cap).length from Nat.zero_lt_succ _) ?_; refine JL_loadE ty57 rfl rdg rfl ?_; refine JL_len sl57 rfl ?_; refine JL_m ?_; refine JL_dv 138 ?_; refine JC_block ?_; refine JC_loopS ((Nat) × (Int) × (Nat)) (fun (i, a, m) => i ≤ ks.length ∧ LI (mS R) ks i a ∧ some_ (mS R) ((ks.take i).map er) = m) (fun (i, a, m) => ks.length - i) (fun u (i, a, m) => (rn 6 (some (.int .i64 a) :: some (.int .i64 (m : Nat)) :: sc u 8 2 (rn 19 (some (.int .i64 (i : Nat)) :: sc u 30 12 []))))) (fun (i, a, m) => []) (fun (i, a, m) => []) (0, -1, 0) kr ?_ kr ?_ ?_
  · exact ⟨Nat.zero_le _, LI.zero _, rfl⟩
  · exact subset_nil
  intro u i hC; obtain ⟨i, a, m⟩ := i; obtain ⟨hi, hA, hm⟩ := hC; refine JC_nm 138 [] [_, _, _, _, _] ?_
  have hml := some_len (S := mS R) (ks.take i)
  rw [hm, List.length_take] at hml; refine JC_sr ?_; refine JL_lss rfl rfl ?_; refine JL_split (fun h30 => ?_) (fun h30 => ?_)
  ·refine JL_dv 138 ?_; refine JC_seq ?_; refine JC_true rfl ?_; refine JC_skip ?_; refine JE_then ?_; refine JC_seq ?_; refine JC_block ?_; refine JC_sr ?_; refine JL_m ?_; refine JL_idx i sl57 rfl rfl rfl om rdg (by rw [ptrs_length]; omega) ?_; refine JL_loadE ty58 rfl rdg (ptrs_get om) ?_; refine JL_a ?_; refine JL_a ?_; refine JL_dv 138 ?_; refine JC_sr ?_; refine JL_m ?_; refine JL_m ?_; refine JL_callF' (Asks.cons (holds_of_mem am) (Asks.cons (holds_of_mem am) Asks.nil)) (conAs (state_con hR (ks.getD i default) (hf.kids _ (at_mem (i := i) om))) (at_mem (i := i) om)) rfl ca59 ⟨rfl, rfl, rfl⟩ ?_; rintro _ _ ⟨rfl, rfl⟩; refine JL_neq rfl rfl ?_; refine JL_split (fun h37 => ?_) (fun h37 => ?_)
   ·refine JL_du 138 [] [_, _, _, _, _] ?_; refine JC_true rfl ?_; refine JC_sr ?_; refine JL_m ?_; refine JL_a ?_; refine JL_dv 138 ?_; refine JC_region ?_; refine JL_m ?_; refine JL_add_to rfl rfl i6o ?_; refine JL_a ?_; refine JL_nv 138 ?_; refine JE_block_normal ?_; refine JE_then ?_; refine JC_region ?_; refine JL_add_to rfl rfl i6o ?_; refine JL_m ?_; refine JL_nv 138 ?_; refine JE_nextS (i + 1, (i : Nat), m + 1) kr ?_ ?_ kr ?_
    · exact ⟨by omega, LI.here (fun e => h37 (by rw [e]; rfl)), by rw [some_take om, hm, if_neg (fun e => h37 (by rw [e]; rfl))]⟩
    · first | omega | (dsimp only; omega)
    · exact subset_app subset_nil ss0
   ·refine JL_du 138 [] [_, _, _, _, _] ?_; refine JC_false rfl ?_; refine JC_skip ?_; refine JE_block_normal ?_; refine JE_then ?_; refine JC_region ?_; refine JL_add_to rfl rfl i6o ?_; refine JL_m ?_; refine JL_nv 138 ?_; refine JE_nextS (i + 1, a, m) kr ?_ ?_ kr ?_
    · exact ⟨by omega, hA.same om om, by rw [some_take om, hm, if_pos om]; rfl⟩
    · first | omega | (dsimp only; omega)
    · exact subset_app subset_nil ss0
  ·refine JL_dv 138 ?_; refine JC_seq ?_; refine JC_false rfl ?_; refine JC_exit ?_; refine JE_then_exit ?_; refine JE_nextS_exit ?_; refine JE_block_exit ?_; refine JE_then ?_; refine JC_seq ?_; refine JC_seq ?_; obtain rfl : i = ks.length := by omega
   rw [some_all] at hm; obtain ⟨ha, hlt, hk0⟩ := hA.last hs0; subst ha; refine JC_region ?_; refine JL_m ?_; refine JL_eql rfl rfl ?_; refine JL_split (fun h43 => ?_) (fun h43 => ?_)
   ·refine JL_dv 138 ?_; refine JC_true rfl ?_; refine JC_sr ?_; refine JL_m ?_; refine JL_m ?_; refine JL_nilCheckE rfl ?_; refine JL_fieldAddrE fo60_2 rfl rdg (show 0 < (ncells n q ad ks.length cap).length from Nat.zero_lt_succ _) ?_; refine JL_loadE ty57 rfl rdg rfl ?_; refine JL_m ?_; refine JL_idx (lastI (mS R) (ks.map er)) sl57 rfl rfl rfl om rdg (by rw [ptrs_length]; omega) ?_; refine JL_loadE ty58 rfl rdg (ptrs_get om) ?_; refine JL_callA' true (AsksA.cons (holdsA_of_mem am) (AsksA.cons (holdsA_of_mem am) AsksA.nil)) (conAsA (IH (ks.getD (lastI (mS R) (ks.map er)) default) (at_mem hlt) hk0) (at_mem hlt)) rfl ca38 ⟨rfl, rfl, rfl⟩ ?_; rintro _ _ ⟨p53, b53, o53, rfl, rfl, hd53⟩; refine JL_m ?_; refine JL_extract (v := .pointer p53) rfl rfl ?_; refine JL_extract (v := .bool b53) rfl rfl ?_; refine JL_a ?_; refine JL_a ?_; refine JL_du 138 [] [_, _, _, _, _, _] ?_; refine JC_sr ?_; refine JL_m ?_; refine JL_nilCheckE rfl ?_
    refine JL_fieldAddrE fo60_2 rfl rdg (show 0 < (ncells n q ad ks.length cap).length from Nat.zero_lt_succ _) ?_; refine JL_loadE ty57 rfl rdg rfl ?_; refine JL_callO0 (AsksO.cons am AsksO.nil) (ncl_con hln) rfl ca60 ⟨rfl, rfl⟩ ?_; rintro _ _ _ ⟨ad60, c60, rfl, hc60, rfl, rfl⟩; refine JL_norm _ [osl _ _ _ _ _ _] [_, _, _, _, _, _] rfl rfl rfl ?_; refine JL_a ?_; refine JL_du 138 [osl _ _ _ _ _ _] [_, _, _, _, _, _] ?_; refine JC_sr ?_; refine JL_m ?_; refine JL_m ?_; refine JL_m ?_; refine JL_idx (lastI (mS R) (ks.map er)) sl57 rfl rfl rfl om (Reads.own 0 rfl) (by rw [ptrs_length]; omega) ?_; refine JL_storeE (vs := [_]) 0 ty58 zp rfl rfl rfl ao1 rfl (by rw [ptrs_length]; simp only [List.length_cons, List.length_nil]; omega) ?_; refine JL_du 138 [osl _ _ _ _ _ _] [_, _, _, _, _, _] ?_; refine JC_sr ?_; refine JL_m ?_; refine JL_nilCheckE rfl ?_
    refine JL_fieldAddrE fo60_1 rfl rdg (show 0 < (ncells n q ad ks.length cap).length from Nat.zero_lt_succ _) ?_; refine JL_loadE ty4 rfl rdg rfl ?_; refine JL_m ?_; refine JL_build (cs := [_, _, _]) [(1, [_]), (2, [_])] st60 ⟨⟨rfl, _, rfl, rfl⟩, ⟨rfl, _, rfl, rfl⟩, rfl⟩ rfl ?_; refine JL_box rfl rfl (fun b71 => ?_); refine JL_m ?_; refine JL_a ?_; refine JL_a ?_; refine JL_du 138 [osl _ _ _ _ _ _, box _ _ [_, _, _]] [_, _, _, _, _, _] ?_; refine JC_ret ?_; refine JE_then_ret ?_; refine JE_give 0 rfl ?_; refine JE_norm _ [box _ _ [_, _, _]] [_, _, _, _, _, _, _] rfl rfl rfl ?_; refine JE_giveBox (b := b71) (cs := ncells 0 q ad60 ks.length c60) 0 rfl ?_; refine JE_nodeIf (f := true) (bb := b53) (b := b71) (i := (lastI (mS R) (ks.map er))) (q := q) (ad := ad60) (c := c60) (ks := ks) (o := o53) (p := p53) am am am am (fun e => let ⟨a, h1, h2, _⟩ := hd53.yes e; ⟨a, h1, h2⟩) ?_; refine JE_ret (vs := [_, _]) [vAs (nodeIf b53 b71 q ad60 c60 (ks.set (lastI (mS R) (ks.map er)) (o53.headD default)))] Tryz.results38 ⟨rfl, rfl, rfl⟩ ?_ ?_
    · exact ⟨_, b53, nodeIf b53 b71 q ad60 c60 (ks.set (lastI (mS R) (ks.map er)) (o53.headD default)), rfl, rfl, RD.one hf hks h2 om hlt hd53 hc60.1⟩
    · exact (all_cons am all_nil)
   ·refine JL_dv 138 ?_; refine JC_false rfl ?_; refine JC_skip ?_; refine JE_then ?_; refine JC_seq ?_; refine JC_sr ?_; refine JL_m ?_; refine JL_nilCheckE rfl ?_; refine JL_fieldAddrE fo60_1 rfl rdg (show 0 < (ncells n q ad ks.length cap).length from Nat.zero_lt_succ _) ?_; refine JL_loadE ty4 rfl rdg rfl ?_; refine JL_dv 138 ?_; refine JC_cond rfl (fun hb => ?_) (fun hb => ?_)
    ·have h76 := hb
     refine JC_sr ?_; refine JL_m ?_; refine JL_m ?_; refine JL_m ?_; refine JL_callA' true (AsksA.cons (holdsA_of_mem am) (AsksA.cons (holdsA_of_mem am) AsksA.nil)) (within_con hR hf hL hs0 hks (l := (lastI (mS R) (ks.map er)))) rfl ca61 ⟨rfl, rfl, rfl, rfl⟩ ?_; rintro _ _ ⟨p80, b80, o80, rfl, rfl, hd80⟩; refine JL_extract rfl rfl ?_; refine JL_extract rfl rfl ?_; refine JL_a ?_; refine JL_a ?_; refine JL_du 138 [] [_, _, _, _, _, _] ?_; refine JC_ret ?_; refine JE_then_ret ?_; refine JE_ret (vs := [_, _]) [vAs o80] Tryz.results38 ⟨rfl, rfl, rfl⟩ ?_ ?_
     · exact ⟨p80, b80, o80, rfl, rfl, by rw [red_er hks h2, if_neg om, if_pos h76]; exact hd80⟩
     · exact (all_cons am all_nil)
    ·have h76 := hb
     refine JC_skip ?_; refine JE_then ?_; refine JC_sr ?_; refine JL_m ?_; refine JL_m ?_; refine JL_callO0 (AsksO.cons am (AsksO.cons am AsksO.nil)) (sorted_con hR hf) rfl ca62 ⟨rfl, rfl, rfl⟩ ?_; rintro _ _ _ ⟨b4_85, b5_85, a0_85, a1_85, a2_85, c0_85, c1_85, c2_85, rfl, ⟨hc0_85, hc1_85, hc2_85⟩, rfl, rfl⟩; refine JL_norm _ [box _ _ [_, _, _], box _ _ [_, _, _], osl _ _ _ _ _ _, osl _ _ _ _ _ _, osl _ _ _ _ _ _] [_, _, _, _, _] rfl rfl rfl ?_; refine JL_alloc z98 (fun b13 => ?_); refine JL_store (vs := [_, _, _]) 5 ty98 rfl rfl rfl ao3 rfl bleq ?_; refine JL_du 138 [box _ _ [_, _, _], box _ _ [_, _, _], osl _ _ _ _ _ _, osl _ _ _ _ _ _, osl _ _ _ _ _ _, box _ _ [_, _, _]] [_, _, _, _, _] ?_; refine JC_sr ?_; refine JL_a ?_; refine JL_dv 138 ?_; refine JC_seq ?_; refine JC_seq ?_; refine JC_asNil ?_; refine JC_region ?_; refine JL_addNil 58 1 ?_; refine JL_idxArr 1 ar98 rfl rfl rfl (by decide) ?_; refine JL_load 5 ty57 rfl rfl rfl ?_; refine JL_len sl57 rfl ?_
     refine JL_du 138 [box _ _ [_, _, _], box _ _ [_, _, _], osl _ _ _ _ _ _, osl _ _ _ _ _ _, osl _ _ _ _ _ _, box _ _ [_, _, _], osl _ _ _ _ _ _] [_, _, _, _, _, _] ?_; refine JC_cutT ((List AT) × (Option Addr) × (Nat)) (fun (l, ad3, c3) => TG (mS R) ks l ∧ (∀ x ∈ l, Fit x) ∧ (byA (mS R) 1 ks).length ≤ 2) (fun u (l, ad3, c3) => (rn 4 (sc u 4 2 (rn 8 (some (.slice ad3 l.length c3) :: sc u 15 2 (rn 72 (sc u 89 17 []))))))) (fun (l, ad3, c3) => (rn 6 [some (osl ad3 l.length c3 58 1 (ptrs l))])) (fun (l, ad3, c3) => [(true, vAs l)]) ?_ ?_
     ·refine JC_block ?_; refine JC_sr ?_; refine JL_eql rfl rfl ?_; refine JL_split (fun h90 => ?_) (fun h90 => ?_)
      ·refine JL_a ?_; refine JL_dv 138 ?_; refine JC_true rfl ?_; refine JC_skip ?_; refine JE_block_normal ?_; refine JE_midS ([], none, 0) kr ?_ kr ?_
       · exact ⟨TG.zero om, (fun _ h => by cases h), by omega⟩
       · exact subset_app (subset_cons am subset_nil) ss0
      ·refine JL_a ?_; refine JL_dv 138 ?_; refine JC_false rfl ?_; refine JC_seq ?_; refine JC_sr ?_; refine JL_eql rfl rfl ?_; refine JL_split (fun h92 => ?_) (fun h92 => ?_)
       ·refine JL_a ?_; refine JL_dv 138 ?_; refine JC_true rfl ?_; refine JC_skip ?_; refine JE_then ?_; refine JC_true rfl ?_; refine JC_sr ?_; refine JL_m ?_; refine JL_dropAt 6 ?_; refine JL_norm _ [box _ _ [_, _, _], box _ _ [_, _, _], osl _ _ _ _ _ _, osl _ _ _ _ _ _, osl _ _ _ _ _ _, box _ _ [_, _, _]] [_, _, _, _, _, _] rfl rfl rfl ?_; refine JL_idxArr 1 ar98 rfl rfl rfl (by decide) ?_; refine JL_load 5 ty57 rfl rfl rfl ?_; refine JL_idx 0 sl57 rfl rfl rfl om (Reads.own 3 rfl) (by rw [ptrs_length]; omega) ?_; refine JL_loadE ty58 rfl (Reads.own 3 rfl) (ptrs_get om) ?_; refine JL_callO0 (AsksO.cons am (AsksO.cons am AsksO.nil)) (conAsO (lin_con hR ((byA (mS R) 1 ks).getD 0 default) (hf.kids _ (byA_mem (S := mS R) (s := 1) (at_mem (l := byA (mS R) 1 ks) (i := 0) om))) (by have := nA_mem (byA_mem (S := mS R) (s := 1) (at_mem (l := byA (mS R) 1 ks) (i := 0) om)); omega)) (byA_mem (S := mS R) (s := 1) (at_mem (l := byA (mS R) 1 ks) (i := 0) om))) rfl ca63 ⟨rfl, rfl, rfl⟩ ?_; rintro _ _ _ ⟨o100, ad100, c100, b100, rfl, hc100, rfl, rfl, hf100, hl100⟩
        refine JL_norm _ [box _ _ [_, _, _], box _ _ [_, _, _], osl _ _ _ _ _ _, osl _ _ _ _ _ _, osl _ _ _ _ _ _, box _ _ [_, _, _], osl _ _ _ _ _ _] [_, _, _, _, _, _, _] rfl rfl rfl ?_; refine JL_m ?_; refine JL_extract rfl rfl ?_; refine JL_extract rfl rfl ?_; refine JL_a ?_; refine JL_a ?_; refine JL_du 138 [box _ _ [_, _, _], box _ _ [_, _, _], osl _ _ _ _ _ _, osl _ _ _ _ _ _, osl _ _ _ _ _ _, box _ _ [_, _, _], osl _ _ _ _ _ _] [_, _, _, _, _, _, _] ?_; refine JC_seq ?_; refine JC_sr ?_; refine JL_m ?_; refine JL_not rfl ?_; refine JL_dv 138 ?_; refine JC_cond rfl (fun hb => ?_) (fun hb => ?_)
        ·have h104 := hb
         refine JC_sr ?_; refine JL_a ?_; refine JL_a ?_; refine JL_dv 138 ?_; refine JC_ret ?_; refine JE_then_ret ?_; refine JE_block_ret ?_; refine JE_midS_ret ?_; refine JE_asNil ?_; refine JE_ret (vs := [_, _]) [vAs []] Tryz.results38 ⟨rfl, rfl, rfl⟩ ?_ ?_
         · exact ⟨none, false, [], rfl, rfl, RD.not (by rw [red_er hks h2, if_neg om, if_neg (by rw [h76]; exact Bool.false_ne_true), tog_no0 om (by rw [hl100, show b100 = false from by cases b100 with | false => rfl | true => exact absurd h104 (by decide)]; rfl)])⟩
         · exact (all_cons am all_nil)
        ·have h104 := hb
         refine JC_skip ?_; refine JE_then ?_; refine JC_region ?_; refine JL_m ?_; refine JL_a ?_; refine JL_nv 138 ?_; refine JE_block_normal ?_; refine JE_midS (o100, ad100, c100) kr ?_ kr ?_
         · exact ⟨TG.some om (by rw [hl100, show b100 = true from by cases b100 with | true => rfl | false => exact absurd h104 (by decide)]; rfl), hf100, by omega⟩
         · exact subset_app (subset_cons am subset_nil) (ssS ss0)
       ·refine JL_a ?_; refine JL_dv 138 ?_; refine JC_false rfl ?_; refine JC_region ?_; refine JL_eql rfl rfl ?_; refine JL_split (fun h93 => ?_) (fun h93 => ?_)
        ·refine JL_a ?_; refine JL_dv 138 ?_; refine JC_true rfl ?_; refine JC_sr ?_; refine JL_m ?_; refine JL_dropAt 6 ?_; refine JL_norm _ [box _ _ [_, _, _], box _ _ [_, _, _], osl _ _ _ _ _ _, osl _ _ _ _ _ _, osl _ _ _ _ _ _, box _ _ [_, _, _]] [_, _, _, _, _, _] rfl rfl rfl ?_; refine JL_idxArr 1 ar98 rfl rfl rfl (by decide) ?_; refine JL_load 5 ty57 rfl rfl rfl ?_; refine JL_idx 0 sl57 rfl rfl rfl om (Reads.own 3 rfl) (by rw [ptrs_length]; omega) ?_; refine JL_loadE ty58 rfl (Reads.own 3 rfl) (ptrs_get om) ?_; refine JL_callO0 (AsksO.cons am (AsksO.cons am AsksO.nil)) (conAsO (lin_con hR ((byA (mS R) 1 ks).getD 0 default) (hf.kids _ (byA_mem (S := mS R) (s := 1) (at_mem (l := byA (mS R) 1 ks) (i := 0) om))) (by have := nA_mem (byA_mem (S := mS R) (s := 1) (at_mem (l := byA (mS R) 1 ks) (i := 0) om)); omega)) (byA_mem (S := mS R) (s := 1) (at_mem (l := byA (mS R) 1 ks) (i := 0) om))) rfl ca63 ⟨rfl, rfl, rfl⟩ ?_; rintro _ _ _ ⟨o100, ad100, c100, b100, rfl, hc100, rfl, rfl, hf100, hl100⟩
         refine JL_norm _ [box _ _ [_, _, _], box _ _ [_, _, _], osl _ _ _ _ _ _, osl _ _ _ _ _ _, osl _ _ _ _ _ _, box _ _ [_, _, _], osl _ _ _ _ _ _] [_, _, _, _, _, _, _] rfl rfl rfl ?_; refine JL_m ?_; refine JL_extract rfl rfl ?_; refine JL_extract rfl rfl ?_; refine JL_a ?_; refine JL_a ?_; refine JL_du 138 [box _ _ [_, _, _], box _ _ [_, _, _], osl _ _ _ _ _ _, osl _ _ _ _ _ _, osl _ _ _ _ _ _, box _ _ [_, _, _], osl _ _ _ _ _ _] [_, _, _, _, _, _, _] ?_; refine JC_seq ?_; refine JC_sr ?_; refine JL_m ?_; refine JL_not rfl ?_; refine JL_dv 138 ?_; refine JC_cond rfl (fun hb => ?_) (fun hb => ?_)
         ·have h104 := hb
          refine JC_sr ?_; refine JL_a ?_; refine JL_a ?_; refine JL_dv 138 ?_; refine JC_ret ?_; refine JE_then_ret ?_; refine JE_block_ret ?_; refine JE_midS_ret ?_; refine JE_asNil ?_; refine JE_ret (vs := [_, _]) [vAs []] Tryz.results38 ⟨rfl, rfl, rfl⟩ ?_ ?_
          · exact ⟨none, false, [], rfl, rfl, RD.not (by rw [red_er hks h2, if_neg om, if_neg (by rw [h76]; exact Bool.false_ne_true), tog_no0 om (by rw [hl100, show b100 = false from by cases b100 with | false => rfl | true => exact absurd h104 (by decide)]; rfl)])⟩
          · exact (all_cons am all_nil)
         ·have h104 := hb
          refine JC_skip ?_; refine JE_then ?_; refine JC_region ?_; refine JL_m ?_; refine JL_a ?_; refine JL_nv 138 ?_; refine JE_block_normal ?_; refine JE_midS (o100, ad100, c100) kr ?_ kr ?_
          · exact ⟨TG.some om (by rw [hl100, show b100 = true from by cases b100 with | true => rfl | false => exact absurd h104 (by decide)]; rfl), hf100, by omega⟩
          · exact subset_app (subset_cons am subset_nil) (ssS ss0)
        ·refine JL_a ?_; refine JL_dv 138 ?_; refine JC_false rfl ?_; refine JC_sr ?_; refine JL_a ?_; refine JL_a ?_; refine JL_dv 138 ?_; refine JC_ret ?_; refine JE_block_ret ?_; refine JE_midS_ret ?_; refine JE_asNil ?_; refine JE_ret (vs := [_, _]) [vAs []] Tryz.results38 ⟨rfl, rfl, rfl⟩ ?_ ?_
         · exact ⟨none, false, [], rfl, rfl, RD.not (by rw [red_er hks h2, if_neg om, if_neg (by rw [h76]; exact Bool.false_ne_true), tog_no om])⟩
         · exact (all_cons am all_nil)
     intro u i hC; obtain ⟨l, ad3, c3⟩ := i; obtain ⟨hT, hF, hB2⟩ := hC; refine JC_nm 138 [box _ _ [_, _, _], box _ _ [_, _, _], osl _ _ _ _ _ _, osl _ _ _ _ _ _, osl _ _ _ _ _ _, box _ _ [_, _, _], osl _ _ _ _ _ _] [_, _, _, _, _, _, _] ?_; refine JC_sr ?_; refine JL_m ?_; refine JL_idxArr 2 ar98 rfl rfl rfl (by decide) ?_; refine JL_load 5 ty57 rfl rfl rfl ?_; refine JL_give 4 rfl ?_; refine JL_norm _ [box _ _ [_, _, _], box _ _ [_, _, _], osl _ _ _ _ _ _, osl _ _ _ _ _ _, box _ _ [_, _, _], osl _ _ _ _ _ _] [_, _, _, _, _, _, _, _] rfl rfl rfl ?_
     have hb3 := nA_by3 (S := mS R) ks
     have hlN := hT.nA hf.kids
     have hlN2 := nA_le (byA (mS R) 1 ks) 1
     have hlN3 := nA_ge hF
     refine JL_asSub (f := true) (l := ks) (m := byA (mS R) 2 ks) am (fun x hx => byA_mem hx) ?_; refine JL_callA' true (AsksA.cons (holdsA_of_mem am) (AsksA.cons (holdsA_of_mem am) AsksA.nil)) (group_con hc2_85 (by have := byA_len (mS R) 2 ks; omega) (fun k hk => hf.kids k (byA_mem hk))) rfl ca35 ⟨rfl, rfl⟩ ?_; rintro _ _ ⟨o109, rfl, rfl, he109, hf109⟩; rw [optr_oad]
     have ho109 := one_grp he109
     refine JL_build1 sl57 rfl rfl (fun g110 => ?_); refine JL_callOL (σ1 := [box _ _ [_, _, _], box _ _ [_, _, _], osl _ _ _ _ _ _, osl _ _ _ _ _ _, box _ _ [_, _, _]]) (join_con (l := l) (o := o109) om ho109 (Nat.le_refl _)) rfl ca64 ⟨rfl, rfl, rfl⟩ ?_; rintro _ _ _ ⟨ad111, c111, rfl, hc111, rfl, rfl⟩; refine JL_norm _ [box _ _ [_, _, _], box _ _ [_, _, _], osl _ _ _ _ _ _, osl _ _ _ _ _ _, box _ _ [_, _, _], osl _ _ _ _ _ _] [_, _, _, _, _, _, _, _, _, _] rfl rfl rfl ?_; refine JL_asApp (f := true) (l := l) (m := o109) am am ?_
     have hF1 : ∀ x ∈ l ++ o109, Fit x := fun x hx => (List.mem_append.1 hx).elim (hF x) (hf109 x)
     have ho9 := nA_ge hf109
     rw [nA_grp he109] at ho9
     have hlB := nA_le (byA (mS R) 1 ks) 1
     have hla : (l ++ o109).length ≤ 1000 := by rw [List.length_append]; omega
     refine JL_a ?_; refine JL_du 138 [box _ _ [_, _, _], box _ _ [_, _, _], osl _ _ _ _ _ _, osl _ _ _ _ _ _, box _ _ [_, _, _], osl _ _ _ _ _ _] [_, _, _, _, _, _, _, _, _, _, _] ?_; refine JC_seq ?_; refine JC_sr ?_; refine JL_idxArr 1 ar98 rfl rfl rfl (by decide) ?_; refine JL_load 4 ty57 rfl rfl rfl ?_; refine JL_len sl57 rfl ?_; refine JL_eql rfl rfl ?_; refine JL_dv 138 ?_; refine JC_cutT ((List AT) × (Option Addr) × (Nat)) (fun (l', ad4, c4) => togL (mS R) (ks.map er) = some (l'.map er) ∧ (∀ x ∈ l', Fit x) ∧ l'.length ≤ 1000 ∧ (l'.length ≤ c4 ∧ c4 ≤ 9223372036854775807)) (fun u (l', ad4, c4) => (rn 4 (sc u 4 2 (rn 8 (some (.slice ad4 l'.length c4) :: rn 2 (sc u 17 2 (rn 97 (sc u 116 15 [])))))))) (fun (l', ad4, c4) => (rn 5 [some (osl ad4 l'.length c4 58 1 (ptrs l'))])) (fun (l', ad4, c4) => [(true, vAs l')]) ?_ ?_
     ·refine JC_cond rfl (fun hb => ?_) (fun hb => ?_)
      ·have h115 := of_decide_eq_true hb
       refine JC_sr ?_; refine JL_m ?_; refine JL_idxArr 1 ar98 rfl rfl rfl (by decide) ?_; refine JL_load 4 ty57 rfl rfl rfl ?_; refine JL_idx 1 sl57 rfl rfl rfl om (Reads.own 3 rfl) (by rw [ptrs_length]; omega) ?_; refine JL_loadE ty58 rfl (Reads.own 3 rfl) (ptrs_get om) ?_; refine JL_callO0 (AsksO.cons am (AsksO.cons am AsksO.nil)) (conAsO (lin_con hR ((byA (mS R) 1 ks).getD 1 default) (hf.kids _ (byA_mem (S := mS R) (s := 1) (at_mem (l := byA (mS R) 1 ks) (i := 1) om))) (by have := nA_mem (byA_mem (S := mS R) (s := 1) (at_mem (l := byA (mS R) 1 ks) (i := 1) om)); omega)) (byA_mem (S := mS R) (s := 1) (at_mem (l := byA (mS R) 1 ks) (i := 1) om))) rfl ca63 ⟨rfl, rfl, rfl⟩ ?_; rintro _ _ _ ⟨o122, ad122, c122, b122, rfl, hc122, rfl, rfl, hf122, hl122⟩; refine JL_norm _ [box _ _ [_, _, _], box _ _ [_, _, _], osl _ _ _ _ _ _, osl _ _ _ _ _ _, box _ _ [_, _, _], osl _ _ _ _ _ _, osl _ _ _ _ _ _] [_, _, _, _, _, _, _, _, _, _, _, _] rfl rfl rfl ?_; refine JL_m ?_; refine JL_extract rfl rfl ?_; refine JL_extract rfl rfl ?_; refine JL_a ?_; refine JL_a ?_
       refine JL_du 138 [box _ _ [_, _, _], box _ _ [_, _, _], osl _ _ _ _ _ _, osl _ _ _ _ _ _, box _ _ [_, _, _], osl _ _ _ _ _ _, osl _ _ _ _ _ _] [_, _, _, _, _, _, _, _, _, _, _, _] ?_; refine JC_seq ?_; refine JC_sr ?_; refine JL_m ?_; refine JL_not rfl ?_; refine JL_dv 138 ?_; refine JC_cond rfl (fun hb => ?_) (fun hb => ?_)
       ·have h126 := hb
        refine JC_sr ?_; refine JL_a ?_; refine JL_a ?_; refine JL_dv 138 ?_; refine JC_ret ?_; refine JE_then_ret ?_; refine JE_midS_ret ?_; refine JE_asNil ?_; refine JE_ret (vs := [_, _]) [vAs []] Tryz.results38 ⟨rfl, rfl, rfl⟩ ?_ ?_
        · exact ⟨none, false, [], rfl, rfl, RD.not (by rw [red_er hks h2, if_neg om, if_neg (by rw [h76]; exact Bool.false_ne_true), tog_no1 om (by rw [hl122, show b122 = false from by cases b122 with | false => rfl | true => exact absurd h126 (by decide)]; rfl)])⟩
        · exact (all_cons am all_nil)
       ·have h126 := hb
        refine JC_skip ?_; refine JE_then ?_; refine JC_region ?_; refine JL_m ?_; refine JL_m ?_; refine JL_give 6 rfl ?_; refine JL_norm _ [box _ _ [_, _, _], box _ _ [_, _, _], osl _ _ _ _ _ _, osl _ _ _ _ _ _, box _ _ [_, _, _], osl _ _ _ _ _ _] [_, _, _, _, _, _, _, _, _, _, _, _, _] rfl rfl rfl ?_; obtain rfl : b122 = true := by cases b122 with | true => rfl | false => exact absurd h126 (by decide)
        replace hl122 : lin (mS R) (er ((byA (mS R) 1 ks).getD 1 default)) = some (o122.map er) := hl122
        have hN122 : nA o122 = _ := lin_nl (hf.kids _ (byA_mem (S := mS R) (s := 1) (at_mem (l := byA (mS R) 1 ks) (i := 1) om))).ok hl122
        have hoL2 := nA_ge hf122
        have hbj := nA_mem (byA_mem (S := mS R) (s := 1) (at_mem (l := byA (mS R) 1 ks) (i := 1) om))
        have hbk : nA ((byA (mS R) 1 ks).take 2) = _ := nA_take (l := byA (mS R) 1 ks) (i := 1) om
        have hbl := nA_le (byA (mS R) 1 ks) 2
        refine JL_callA' true (AsksA.cons (holdsA_of_mem am) AsksA.nil) (rev_con (ks := o122) om) rfl ca65 ⟨rfl, rfl⟩ ?_; rintro _ _ ⟨ad129, c129, rfl, hc129, rfl⟩
        have hrl : o122.reverse.length ≤ 1000 := by rw [List.length_reverse]; omega
        refine JL_append (news := ptrs o122.reverse) 5 sl57 rfl (by decide) rfl rfl rfl (by rw [ptrs_length, Nat.mul_one]) (Reads.view am) (ptrs_one _) om om (fun ad130 cap130 hc130 => ?_); refine JL_norm _ [box _ _ [_, _, _], box _ _ [_, _, _], osl _ _ _ _ _ _, osl _ _ _ _ _ _, box _ _ [_, _, _], osl _ _ _ _ _ _] [_, _, _, _, _, _, _, _, _, _, _, _, _, _] rfl rfl rfl ?_; rw [ptrs_app, ← List.length_append]; rw [← List.length_append] at hc130; refine JL_asSub (f := true) (l := o122) (m := o122.reverse) am (fun x hx => List.mem_reverse.1 hx) ?_; refine JL_asApp (f := true) (l := l ++ o109) (m := o122.reverse) am am ?_
        have hlb : (l ++ o109 ++ o122.reverse).length ≤ 1000 := by rw [List.length_append, List.length_append, List.length_reverse]; omega
        refine JL_a ?_; refine JL_nu 138 [box _ _ [_, _, _], box _ _ [_, _, _], osl _ _ _ _ _ _, osl _ _ _ _ _ _, box _ _ [_, _, _], osl _ _ _ _ _ _] [_, _, _, _, _, _, _, _, _, _, _, _, _, _, _, _] ?_; refine JE_midS (l ++ o109 ++ o122.reverse, ad130, cap130) kr ?_ kr ?_
        · exact ⟨togL_two hT om he109 hl122, fun x hx => (List.mem_append.1 hx).elim (hF1 x) (fun h => hf122 x (List.mem_reverse.1 h)), by omega, hc130⟩
        · exact subset_app (subset_cons am subset_nil) (ssS (ssS (ssS (ssS (ssS ss0)))))
      ·have h115 := of_decide_eq_false hb
       refine JC_skip ?_; refine JE_midS (l ++ o109, ad111, c111) kr ?_ kr ?_
       · exact ⟨togL_less hT om he109, hF1, by omega, hc111⟩
       · exact subset_app (subset_cons am subset_nil) ss0
     intro u i hC; obtain ⟨l', ad4, c4⟩ := i; obtain ⟨hT2, hF2, hN2, hc4⟩ := hC; refine JC_nm 138 [box _ _ [_, _, _], box _ _ [_, _, _], osl _ _ _ _ _ _, osl _ _ _ _ _ _, box _ _ [_, _, _], osl _ _ _ _ _ _] [_, _, _, _, _, _, _, _, _, _, _, _] ?_; refine JC_seq ?_; refine JC_give 5 rfl ?_; refine JC_nw [box _ _ [_, _, _], box _ _ [_, _, _], osl _ _ _ _ _ _, osl _ _ _ _ _ _, box _ _ [_, _, _]] [_, _, _, _, _, _, _, _, _, _, _, _, _] ?_; refine JC_drawT mixed 5 [spV 131 [] _, spV 132 [0] _, spV 133 [] _, spC 134 [2] _, spC 135 [3] (fun v φo => ∃ (g : Nat) (o : List AT), v = .slice (some ⟨g, 0, none⟩) 1 1 ∧ φo = [vCells (some ⟨g, 0, none⟩) [.pointer (oad o)], vAs o] ∧ o.map er = lne (l'.map er) ∧ ∀ t ∈ o, Fit t)] ⟨OblS_V (fun vals ex ψ => (by refine JL_normQ _ (_ :: _ :: _ :: _ :: _ :: _ :: _ :: _ :: _ :: _ :: _ :: _ :: _ :: ψ) rfl rfl ?_; refine JL_idxArr 0 ar98 rfl rfl rfl (by decide) ?_; exact vz rfl)), OblS_V (fun vals ex ψ => (by refine JL_normQ _ (_ :: _ :: _ :: _ :: _ :: _ :: _ :: _ :: _ :: _ :: _ :: _ :: _ :: ψ) rfl rfl ?_; refine JL_load 4 ty57 rfl rfl rfl ?_; exact vz rfl)), oM, OblS_C (fun vals ex ψ => (by refine JL_normQ ⟨138, [(131, _), (132, _), (133, _), (134, _), (135, _)], _⟩ (_ :: _ :: _ :: _ :: _ :: _ :: _ :: _ :: _ :: _ :: _ :: _ :: _ :: ψ) rfl rfl ?_; refine JL_callA' true (AsksA.cons (holdsA_of_mem am) (AsksA.cons (holdsA_of_mem am) AsksA.nil)) (line_con hc4.1 om hF2) rfl ca66 ⟨rfl, rfl⟩ ?_; exact fun v φo hP => JL_nil (JE_stepC φo rfl hP (fun p hp => mapB_l hp) (fun p hp => mapB_r (ss0 p hp))))), OblS_C (fun vals ex ψ => (by
       refine JL_normQ ⟨138, [(131, _), (132, _), (133, _), (134, _), (135, _)], _⟩ (_ :: _ :: _ :: _ :: _ :: _ :: _ :: _ :: _ :: _ :: _ :: _ :: _ :: _ :: ψ) rfl rfl ?_; generalize vals 3 = x134; refine JL_usePost mm0 (fun φo hP => ?_); obtain ⟨o134, rfl, rfl, he134, hf134⟩ := hP; refine JL_norm _ _ (_ :: _ :: _ :: _ :: _ :: _ :: _ :: _ :: _ :: _ :: _ :: _ :: _ :: _ :: _ :: ψ) rfl rfl rfl ?_; rw [optr_oad]; refine JL_build1 (v := .pointer (oad o134)) sl57 rfl rfl (fun g135 => ?_); refine JL_giveLast ?_; exact JL_nil (JE_stepC [vCells (some ⟨g135, 0, none⟩) [.pointer (oad o134)], vAs o134] rfl ⟨g135, o134, rfl, rfl, he134, hf134⟩ (all_cons am (all_cons am all_nil)) (ssS (ssS ss0))))), trivial⟩ kr (fun vals bs => ?_)
     refine JL_normL [_, _, _, _] ⟨138, [(131, _), (132, _), (133, _), (134, _), (135, _)], _⟩ [box _ _ [_, _, _], box _ _ [_, _, _], osl _ _ _ _ _ _, osl _ _ _ _ _ _, box _ _ [_, _, _]] [_, _, _, _, _, _, _, _, _, _, _, _, _, _, _] rfl rfl rfl rfl ?_; generalize vals (0 + 1 + 1 + 1) = x134; generalize vals (0 + 1 + 1 + 1 + 1) = x135; refine JL_usePost (mmS mm0) (fun φo hP => ?_); obtain ⟨g135, o135, rfl, rfl, he135, hf135⟩ := hP; refine JL_norm _ [box _ _ [_, _, _], box _ _ [_, _, _], osl _ _ _ _ _ _, osl _ _ _ _ _ _, box _ _ [_, _, _]] [_, _, _, _, _, _, _, _, _, _, _, _, _, _, _, _, _] rfl rfl rfl ?_
     have hne := togL_ne hf.kids hs0 hT2
     obtain ⟨w, rfl⟩ := single_of he135 (lne_one hne); refine JL_addView (f := true) (p := vCells (some ⟨g135, 0, none⟩) (ptrs [w])) (fun _ s => s.views (true, vCells (some ⟨g135, 0, none⟩) [.pointer (oad [w])]) am) ?_; refine JL_append (news := ptrs [w]) 2 sl57 rfl (by decide) rfl rfl rfl (by rw [ptrs_length]; rfl) (Reads.view am) (ptrs_one [w]) (by have := byA_len (mS R) 0 ks; omega) (by have := byA_len (mS R) 0 ks; omega) (fun ad136 cap136 hc136 => ?_); refine JL_norm _ [box _ _ [_, _, _], box _ _ [_, _, _], osl _ _ _ _ _ _, osl _ _ _ _ _ _, box _ _ [_, _, _]] [_, _, _, _, _, _, _, _, _, _, _, _, _, _, _, _, _, _] rfl rfl rfl ?_; rw [ptrs_app]; rw [show (byA (mS R) 0 ks).length + 1 = (byA (mS R) 0 ks ++ [w]).length from (by rw [List.length_append]; rfl)]; refine JL_give 2 rfl ?_; refine JL_norm _ [box _ _ [_, _, _], box _ _ [_, _, _], osl _ _ _ _ _ _, box _ _ [_, _, _]] [_, _, _, _, _, _, _, _, _, _, _, _, _, _, _, _, _, _, _] rfl rfl rfl ?_; refine JL_asSub (f := true) (l := ks) (m := byA (mS R) 0 ks) am (fun x hx => byA_mem hx) ?_; refine JL_asApp (f := true) (l := byA (mS R) 0 ks) (m := [w]) am am ?_
     have hby := by0_some (S := mS R) ks
     refine JL_callA' true (AsksA.cons (holdsA_of_mem am) (AsksA.cons (holdsA_of_mem am) AsksA.nil)) (group_con (ks := byA (mS R) 0 ks ++ [w]) (by rw [List.length_append]; exact hc136.1) (by rw [List.length_append, List.length_singleton]; omega) (fun k hk => (List.mem_append.1 hk).elim (fun h => hf.kids k (byA_mem h)) (hf135 k))) rfl ca35 ⟨rfl, rfl⟩ ?_; rintro _ _ ⟨o137, rfl, rfl, he137, hf137⟩; rw [optr_oad]; refine JL_a ?_; refine JL_a ?_; refine JL_du 138 [box _ _ [_, _, _], box _ _ [_, _, _], osl _ _ _ _ _ _, box _ _ [_, _, _]] [_, _, _, _, _, _, _, _, _, _, _, _, _, _, _, _, _, _, _, _, _, _] ?_; refine JC_ret ?_; refine JE_ret (vs := [_, _]) [vAs o137] Tryz.results38 ⟨rfl, rfl, rfl⟩ ?_ ?_
     · exact ⟨oad o137, true, o137, rfl, rfl, by rw [red_er hks h2, if_neg om, if_neg (by rw [h76]; exact Bool.false_ne_true)]; exact RD.tog hT2 (by have := he135; rw [lne_one hne] at this; exact (List.cons.inj this).1) hne hf137 he137⟩
     · exact (all_cons am all_nil)

theorem red_con {mb : Nat} {R : List (Int × Bool)} (hR : (R.map (·.1)).Nodup) (t : AT) : Fit t → (lvs (er t)).length ≤ 1000 → st (mS R) (er t) ≠ 0 → ConA Tryz.prog 38 [.map (some mb), ptr t] [vMap mb (mE iv bv R 0) R.length, vA t] (fun v φo => ∃ (p : Option Addr) (b3 : Bool) (o : List AT), v = .tuple #[.pointer p, .bool b3] ∧ φo = [vAs o] ∧ RD p b3 o (red (mS R) (er t))) := by
  induction t using AT.ind with
  | h b n q ad cap ks ih => exact fun hf hL h0 => red_con0 hR hf hL h0 fun k hk => ih k hk (hf.kids k hk) (by
      have h1 : ks ≠ [] := fun e => by rw [e] at hk; cases hk
      rw [nA_nd h1] at hL
      have := nA_mem hk
      omega)

end Go.Fw.K
