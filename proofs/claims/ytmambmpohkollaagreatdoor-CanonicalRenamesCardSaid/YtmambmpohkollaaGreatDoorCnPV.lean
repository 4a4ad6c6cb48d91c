/- slices.Values, slices.AppendSeq, slices.Collect and slices.Sorted at ints. -/
import Derived.Test.YtmambmpohkollaaGreatDoorCnP
import Derived.Test.YtmambmpohkollaaGreatDoorFwXY
import Derived.Test.YtmambmpohkollaaGreatDoorShI
import Derived.Test.YtmambmpohkollaaGreatDoorProg
import Derived.RangeFuncStops
import Derived.RangeFuncOwn
import Derived.RangeFuncNested
import Derived.RangeFuncBox
import Derived.Shelf.Abstract
import Derived.WalkKit
import Derived.TacticsInMore
import Derived.RegionIn
import Derived.LoopNIn
import Derived.LoopIn
import Derived.ProofKit
namespace Go.Fw.K
open Go Go.RowKit Go.Proofs Go.Fw Go.Fw.Cn
def uptoI (f : Nat → Int) (k : Nat) : List Int := (List.range k).map f
theorem uptoI_succ (f : Nat → Int) (k : Nat) : uptoI f (k + 1) = uptoI f k ++ [f k] := by simp [uptoI, List.range_succ]
theorem uptoI_length (f : Nat → Int) (k : Nat) : (uptoI f k).length = k := by simp [uptoI]
theorem uptoI_all (zs : List Int) : uptoI (fun j => zs[j]?.getD 0) zs.length = zs := by
  apply List.ext_getElem
  · simp [uptoI]
  · intro i h1 h2
    simp [uptoI, h2]
set_option maxRecDepth 100000 in
set_option maxHeartbeats 2000000 in
theorem values1_come (n : Nat) (hn : 1 ≤ n) (l Bs n₀ b off len cap : Nat) (zs : List Int) (hreach : len ≤ 1000000) (hb : b < n₀) (J Jx : List Int → World → Prop)
    (hY : ∀ pre x W, J pre W → pre.length < len → YieldAt Fence.wide (n - 1) Tryz.prog l #[.int .i64 x] W fun e W' =>
      (e = .returned (.bool true) ∧ J (pre ++ [x]) W' ∧ Below n₀ W W') ∨ (e = .returned (.bool false) ∧ Jx (pre ++ [x]) W'))
    (W : World) (hBs : W.cell? ⟨Bs, 0, none⟩ = some (.slice (some ⟨b, off, none⟩) len cap)) (hc : ∀ j, j < len → W.cell? ⟨b, off + j, none⟩ = some (.int .i64 (zs[j]?.getD 0))) (h0 : J [] W) :
    CallsIn Fence.wide n Tryz.prog 87 #[.func (.yield l) #[] #[], .pointer (some ⟨Bs, 0, none⟩)] W fun e W' => (∃ v, e = .returned v) ∧
      ((∃ ys, ys = uptoI (fun j => zs[j]?.getD 0) len ∧ J ys W') ∨ (∃ pre, True ∧ Jx pre W')) := by
  refine callsIn_of_wp Tryz.func87 rfl trivial ?_ rfl
  simp only [Tryz.ntmps87, List.size_toArray, List.length_cons, List.length_nil, Nat.reduceAdd, Nat.reduceSub, Array.replicate_succ, Array.replicate_zero, List.push_toArray, List.append_toArray, List.nil_append, List.cons_append]
  gi_wp2
  gi_loopw [7] (fun i wr => ∃ k : Nat, k ≤ len ∧ i = .int .i64 k ∧ J (uptoI (fun j => zs[j]?.getD 0) k) wr ∧ Below n₀ W wr)
    (fun i _ => len - (RowKit.intOf i).toNat)
  case atStart => exact ⟨0, Nat.zero_le _, rfl, h0, Below.refl _ _⟩
  case round =>
    obtain ⟨k, hk, rfl, hJs, hnx⟩ := hrel
    have hcx : k < len → wr.cell? ⟨b, off + k, none⟩ = some (.int .i64 (zs[k]?.getD 0)) := fun h => (hnx.cell (p := ⟨b, off + k, none⟩) hb).trans (hc k h)
    by_cases hlt : k < len
    · obtain ⟨fn, tmps, assign, body, hy, hR⟩ := hY _ (zs[k]?.getD 0) wr hJs (by rw [uptoI_length]; exact hlt)
      have hcx' := hcx hlt
      gi_wp2
      refine hR.mono ?_
      rintro e W3 (⟨rfl, hJ3, hk3⟩ | ⟨rfl, hJx3⟩)
      · gi_wp2
        go_roundw
        case rel => exact ⟨k + 1, by omega, by simp, by rw [uptoI_succ]; exact hJ3, hnx.trans hk3⟩
        case measure => simp [RowKit.intOf]; omega
      · gi_wp2
        refine bodyPost_ret (results_none rfl _ _ _) rfl ?_
        exact ⟨⟨_, rfl⟩, .inr ⟨_, trivial, hJx3⟩⟩
    · obtain rfl : k = len := by omega
      gi_wp2
      go_end0
      exact ⟨⟨_, rfl⟩, .inl ⟨_, rfl, hJs⟩⟩
set_option maxRecDepth 100000 in
set_option maxHeartbeats 1000000 in
theorem values1_nil (n : Nat) (l Bs cap : Nat) (ad : Option Addr) (J : List Int → World → Prop) (W : World) (hBs : W.cell? ⟨Bs, 0, none⟩ = some (.slice ad 0 cap)) (h0 : J [] W) :
    CallsIn Fence.wide n Tryz.prog 87 #[.func (.yield l) #[] #[], .pointer (some ⟨Bs, 0, none⟩)] W fun e W' => (∃ v, e = .returned v) ∧ J [] W' := by
  refine callsIn_of_wp Tryz.func87 rfl trivial ?_ rfl
  simp only [Tryz.ntmps87, List.size_toArray, List.length_cons, List.length_nil, Nat.reduceAdd, Nat.reduceSub, Array.replicate_succ, Array.replicate_zero, List.push_toArray, List.append_toArray, List.nil_append, List.cons_append]
  gi_wp2
  gi_loopw [7] (fun i wr => i = .int .i64 0 ∧ J [] wr) (fun _ _ => 0)
  case atStart => exact ⟨rfl, h0⟩
  case round =>
    obtain ⟨rfl, hJs⟩ := hrel
    gi_wp2
    go_end0
    exact ⟨⟨_, rfl⟩, hJs⟩
theorem values_stop (n : Nat) (hn : 1 ≤ n) (Bs : Nat) {X : Nat → Prop} {ad : Option Addr} {cap : Nat} (zs : List Int) (hreach : zs.length ≤ 1000000) (wi w : World) (hwi : Below wi.heap.size wi w) (hBs : Bs < wi.heap.size)
    (hc : wi.cell? ⟨Bs, 0, none⟩ = some (.slice ad zs.length cap)) (hI : CellsAt X wi ad (i64s zs)) :
    SeqStopsK Fence.wide n Tryz.prog 87 #[.pointer (some ⟨Bs, 0, none⟩)] (fun x : Int => #[Value.int .i64 x]) (Below wi.heap.size) (fun ys => ys = zs) (fun _ => True) zs.length w := fun l J Jx W hW _ _ hY h0 => by
  have hWi : Below wi.heap.size wi W := hwi.trans (hW.mono hwi.size)
  have hc' := (hWi.cell (p := ⟨Bs, 0, none⟩) hBs).trans hc
  by_cases hz : zs = []
  · subst hz
    exact (values1_nil n l Bs cap ad J W hc' h0).mono fun e W' ⟨he, hj⟩ => ⟨he, .inl ⟨_, rfl, hj⟩⟩
  · have h1 : 0 < zs.length := List.length_pos_iff.2 hz
    obtain ⟨b, o, e, _, hc0⟩ := hI 0 _ (i64s_get h1)
    subst e
    have hb : b < wi.heap.size := block_of_cell hc0
    refine (values1_come n hn l Bs wi.heap.size b o zs.length cap zs hreach (by omega) J Jx hY W hc' (fun j hj => ?_) h0).mono ?_
    · obtain ⟨b', o', e', _, hcj⟩ := hI j _ (i64s_get hj)
      obtain ⟨rfl, rfl⟩ : b = b' ∧ o = o' := by simpa using e'
      rw [hWi.cell (p := ⟨b, o + j, none⟩) hb, hcj, List.getD_eq_getElem?_getD]
    · rintro e W' ⟨he, ⟨ys, rfl, hj⟩ | ⟨pre, _, hj⟩⟩
      · exact ⟨he, .inl ⟨_, uptoI_all zs, hj⟩⟩
      · exact ⟨he, .inr ⟨_, trivial, hj⟩⟩
open Go.Sort Go.Shelf in
theorem infoIntV : (Tryz.prog.info? 3).map (fun i => (i.zero, i.size, i.bytes)) = some (some (.int .i64 0), 1, 8) := by kernel_rfl
abbrev valFn (B : Nat) : Value := .func (.func 87) #[] #[.pointer (some ⟨B, 0, none⟩)]
abbrev apFV (sv u5 u7 : Value) (Bs : Nat) : Act := { tmps := #[.slice none 0 0, sv, .pointer (some ⟨Bs, 0, none⟩), undef, .slice none 0 0, u5, sv, u7, undef, undef, undef, undef, undef], defers := [] }
set_option maxRecDepth 100000 in
set_option maxHeartbeats 2000000 in
theorem appV_calls (n : Nat) (hn : 3 ≤ n) {X : Nat → Prop} (B : Nat) {ad : Option Addr} {cap : Nat} (zs : List Int) (hN : zs.length ≤ 1000000) (w : World) (hB : w.cell? ⟨B, 0, none⟩ = some (.slice ad zs.length cap)) (hI : CellsAt X w ad (i64s zs)) :
    CallsIn Fence.wide n Tryz.prog 109 #[.slice none 0 0, valFn B] w fun e w' =>
      ∃ (v : Value), e = .returned v ∧ w'.ownsRow w.heap.size 3 1 v zs.length (i64s zs) ∧ Below w.heap.size w w' := by
  have h1 : 1 ≤ n := by omega
  have hBlt : B < w.heap.size := block_of_cell hB
  obtain ⟨i0, hi, hz0, hz1, hz2⟩ := info_parts infoIntV
  refine callsIn_of_wp_marks Tryz.func109 rfl trivial ?_ rfl
  simp only [Tryz.ntmps109, List.size_toArray, List.length_cons, List.length_nil, Nat.reduceAdd, Nat.reduceSub, Array.replicate_succ, Array.replicate_zero, List.push_toArray, List.append_toArray, List.nil_append, List.cons_append]
  gi_wp2
  obtain ⟨W0, hW0⟩ : ∃ W0, w.alloc (.cells #[.slice none 0 0] 22) = W0 := ⟨_, rfl⟩
  have hs0 : W0.heap.size = w.heap.size + 1 := by rw [← hW0]; simp
  have hv0 : Boxed W0 w.heap.size 22 (.slice none 0 0) := by rw [← hW0]; exact World.alloc_heap_new w _
  have hb0 : Below w.heap.size w W0 := by rw [← hW0]; exact (Below.refl _ w).alloc (Nat.le_refl _) _
  have hseq := values_stop (n - 1) (by omega) B zs hN w W0 hb0 hBlt hB hI
  rw [hW0]
  refine wpIn_rangeFunc_ownH rfl h1 (gf := 87) (lb := #[.pointer (some ⟨B, 0, none⟩)]) rfl trivial (enters_of Tryz.func87 (by kernel_rfl) rfl)
    (encs := fun x => #[Value.int .i64 x]) (Kp := Below w.heap.size) hseq belowK_t (belowK_b (by omega)) (Below.refl _ _) (fun _ => rfl)
    (fun ss W => (∃ v, Boxed W w.heap.size 22 v ∧ W.ownsRow w.heap.size 3 1 v ss.length (i64s ss) ∧ True) ∧ Below w.heap.size w W) (fun _ _ _ => False)
    (((holdsRow_own w.heap.size w.heap.size _ _ 1 List.length i64s fun _ _ => True).from _).and fun s X Y row hs hg hr => hs.grown hg hs.size fun k e => by have := (hr k e).1; omega)
    (fun c s X Y row hs hg hr => hs) ⟨⟨_, hv0, ⟨rfl, .inl ⟨rfl, rfl⟩⟩, trivial⟩, hb0⟩
    (fun x a' _ => a' = apFV (valFn B) (iv x) (iv x) w.heap.size)
    (fun _ _ _ _ _ _ hs _ _ => hs) ?assign ?body ?done (fun D c pre W _ _ h => h.elim)
  case assign =>
    intro lp pre x W K hI hK
    gi_wp2_with (rw [Oper.semAt_eq _ _ _ (fun c h => by cases h)]; go_simp; try go_bits)
    exact hK _ _ ((KeepsOthers.refl W).from _) (Below.refl _ W) hI rfl
  case body =>
    rintro lp pre x a' W _ _ ⟨⟨v, hv, hrow, _⟩, hbw⟩ rfl hlen
    have hc1 := hv.cell
    have hf1 := hv.frozen
    gi_wp2_with (first
      | (gi_at_builtin; refine wpListIn_append_own _ rfl _ _ 22 rfl w.heap.size 3 i0 (.int .i64 0) 1 8 Tryz.underlying22 hi hz0 hz1 hz2 rfl (by decide) _ _ _ rfl (hrow.alloc _) ⟨W.heap.size, 0, none⟩ 1 1 [iv x] rfl rfl ?_ ?_ ?_ ?_ ?_ ?_)
      | (rw [Oper.semAt_eq _ _ _ (fun c h => by cases h)]; go_simp; try go_bits))
    · intro j u hj
      rw [add_lit', cell_box (T := 3) (cs := [iv x]) (World.alloc_heap_new W _), Nat.zero_add]; exact hj
    · exact AllOne.cons rfl AllOne.nil
    · show pre.length + 1 ≤ 9223372036854775807; omega
    · omega
    · have := hbw.size; simp; omega
    · intro v' w3 hown' hg3 _
      obtain ⟨g', cap', rfl⟩ := ownsRow_succ hown'
      obtain ⟨hv3, hv4, hrow4, hko, hbel⟩ := Boxed.appended hv (by decide) hrow hbw.size (Nat.le_refl _) hown' hg3
      have hc3 := hv3.cell
      have hf3 := hv3.frozen
      gi_wp2_with (rw [Oper.semAt_eq _ _ _ (fun c h => by cases h)]; go_simp; try go_bits)
      refine ⟨hko.from _, hbel, ⟨_, hv4, ?_, trivial⟩, hbw.trans hbel⟩
      rw [List.length_append, show i64s (pre ++ [x]) = i64s pre ++ [iv x] from by unfold i64s; rw [List.map_append]; rfl]; exact hrow4
  case done =>
    rintro D xs W hD rfl ⟨⟨v, hv, hrow, _⟩, hbw⟩ hK
    have hc1 := hv.cell
    gi_wp2
    refine ⟨by simp, .inl ⟨_, _, rfl, run_takeDeferred hK, ?_⟩⟩
    exact ⟨_, results_tmp rfl _ _ _, v, rfl, ownsRow_putObj hrow _ hK rfl, hbw.grown (grownBy_putObj' _ _ _) hbw.size (fun k e => by cases e; omega)⟩
theorem appV_con {B : Nat} {ad : Option Addr} {cap : Nat} {L : List Int} (hN : L.length ≤ 1000000) : ConQ Tryz.prog 109 [.slice none 0 0, valFn B] []
    [vCells (some ⟨B, 0, none⟩) [.slice ad L.length cap], vCells ad (i64s L)]
    (fun v rout φo => φo = [] ∧ ∃ (ad : Option Addr) (cap : Nat), v = .slice ad L.length cap ∧ rout = [osl ad L.length cap 3 1 (i64s L)]) := by
  intro w0 p0 p1 w s
  have h1 : (vCells (some ⟨B, 0, none⟩) [.slice ad L.length cap]).holds (Xof w0 [] false) w := s.views (false, _) (List.mem_append_left _ List.mem_cons_self)
  have h2 : (vCells ad (i64s L)).holds (Xof w0 [] false) w := s.views (false, _) (List.mem_append_left _ (List.mem_cons_of_mem _ List.mem_cons_self))
  obtain ⟨a, ha, hc⟩ := CellsAt.some (show CellsAt (Xof w0 [] false) w (some ⟨B, 0, none⟩) [.slice ad L.length cap] from h1) (j := 0) rfl
  obtain rfl := Option.some.inj ha
  refine ((callsIn_wide (n := 3)).1 (appV_calls 3 (Nat.le_refl _) B L hN w hc h2)).mono ?_
  rintro e w' ⟨v, rfl, hrow, hbel⟩
  have key : ∃ (ad : Option Addr) (cap : Nat), v = .slice ad L.length cap ∧ (osl ad L.length cap 3 1 (i64s L)).holds w' ∧ ∀ k, (osl ad L.length cap 3 1 (i64s L)).key = some k → w.heap.size ≤ k := by
    rcases id hrow with ⟨hx, ⟨hv, h0⟩ | ⟨g, cap, cur, hv, hb, rest⟩⟩
    · refine ⟨none, 0, by rw [hv, h0], ⟨hx, .inl ⟨by rw [h0], h0⟩⟩, fun k hk => by simp [osl, Value.ownBlock] at hk⟩
    · exact ⟨some ⟨g, 0, none⟩, cap, hv, ⟨hx, .inr ⟨g, cap, cur, rfl, Nat.zero_le _, rest⟩⟩, fun k hk => by simp [osl, Value.ownBlock] at hk; omega⟩
  obtain ⟨ad3, cap3, rfl, hh, hk⟩ := key
  refine ⟨_, _, [], rfl, ⟨rfl, ad3, cap3, rfl, rfl⟩, ?_⟩
  exact (s.addRes (osl ad3 L.length cap3 3 1 (i64s L)) hbel hh hk).weaken fun p hp => by
    simp only [List.map_nil, List.nil_append] at hp
    exact List.mem_append_right _ hp
set_option maxHeartbeats 1000000 in
theorem valuesI_calls (ad : Option Addr) (n cap : Nat) (w : World) : Calls Tryz.prog 73 #[.slice ad n cap] w fun e w' =>
    e = .returned (valFn w.heap.size) ∧ w' = w.alloc (.cells #[.slice ad n cap] 22) := by
  go_enter Tryz.func73, Tryz.ntmps73
  go_wp2
  go_ret
  exact ⟨rfl, rfl⟩
theorem valuesI_con {ad : Option Addr} {n cap : Nat} : ConF Tryz.prog 73 [.slice ad n cap] [] (fun v φo => ∃ B, v = valFn B ∧ φo = [vCells (some ⟨B, 0, none⟩) [.slice ad n cap]]) := fun w _ => by
  refine (valuesI_calls ad n cap w).mono ?_
  rintro e w' ⟨rfl, rfl⟩
  refine ⟨_, _, rfl, ⟨w.heap.size, rfl, rfl⟩, below_alloc w _, fun p hp => ?_⟩
  obtain rfl := List.mem_singleton.1 hp
  intro j u hj
  refine ⟨w.heap.size, 0, rfl, Nat.lt_irrefl _, ?_⟩
  rw [cell_box (T := 22) (cs := [.slice ad n cap]) (World.alloc_heap_new w _), Nat.zero_add]; exact hj
set_option maxHeartbeats 1000000 in
theorem sortedV_con {B : Nat} {ad : Option Addr} {cap : Nat} {L : List Int} (hN : L.length ≤ 1000000) : ConF Tryz.prog 72 [valFn B]
    [vCells (some ⟨B, 0, none⟩) [.slice ad L.length cap], vCells ad (i64s L)]
    (fun v φo => ∃ (ad : Option Addr) (cap : Nat), v = .slice ad (srtI L).length cap ∧ ((srtI L).length ≤ cap ∧ cap ≤ 9223372036854775807) ∧ φo = [vCells ad (i64s (srtI L))]) := fun w hin => by
  have s0 : St (allOld w) w [] ([vCells (some ⟨B, 0, none⟩) [.slice ad L.length cap], vCells ad (i64s L)].map (fun p => (false, p)) ++ [(false, vPure True), (true, vPure True)]) :=
    (St.start hin).addViews (ψ := [(false, vPure True), (true, vPure True)]) fun p hp => by
      simp only [List.mem_cons, List.not_mem_nil, or_false] at hp
      rcases hp with rfl | rfl <;> exact True.intro
  have hcol : Calls Tryz.prog 86 #[valFn B] w (PostO (allOld w) (vPure True) (vPure True) (fun v rout φo => φo = [] ∧ ∃ (ad : Option Addr) (cap : Nat), v = .slice ad L.length cap ∧ rout = [osl ad L.length cap 3 1 (i64s L)])) := by
    go_enter Tryz.func86, Tryz.ntmps86
    go_wp2_with (go_at_call 109; refine (appV_con hN _ _ _ _ s0).mono ?_; rintro e w' ⟨v, rout, φo, rfl, ⟨hφ, ad, cap, rfl, hr⟩, s1⟩)
    go_ret
    exact ⟨_, rout, φo, rfl, ⟨hφ, ad, cap, rfl, hr⟩, s1⟩
  go_enter Tryz.func72, Tryz.ntmps72
  go_wp2_with (first
    | (go_at_call 86; refine hcol.mono ?_; rintro e w1 ⟨v, rout, φo, rfl, ⟨rfl, ad, cap, rfl, rfl⟩, s1⟩)
    | (go_at_call 74; refine (sortI_con (ad := ad) (cap := cap) hN _ _ _ _ s1).mono ?_; rintro e w2 ⟨v, rout, φo, rfl, ⟨rfl, rfl, rfl⟩, s2⟩))
  go_ret
  have hc := osl_cap (s2.own _ List.mem_cons_self)
  have s3 := s2.give 0 rfl
  have hl : (srtI L).length = L.length := srtI_len L
  refine ⟨_, _, rfl, ⟨ad, cap, by rw [hl]; rfl, by rw [hl]; exact hc, rfl⟩, s3.base, fun p hp => ?_⟩
  obtain rfl := List.mem_singleton.1 hp
  exact (vCells ad (i64s (srtI L))).mono _ _ w2 w2 (s3.views _ List.mem_cons_self) (Nat.le_refl _) (fun _ _ _ => rfl) fun k _ hk => .inr ⟨rfl, hk⟩
end Go.Fw.K
