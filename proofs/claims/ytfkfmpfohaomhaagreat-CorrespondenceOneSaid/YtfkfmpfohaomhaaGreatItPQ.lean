/- maps.Keys at maps whose keys are pairs: the iterator. -/
import Derived.Test.YtfkfmpfohaomhaaGreatFwMN
import Derived.Test.YtfkfmpfohaomhaaGreatCc
import Derived.Test.YtfkfmpfohaomhaaGreatProg
import Derived.RangeFuncStops
import Derived.RangeFuncOwn
import Derived.Sort.MapsRangeIn
import Derived.WalkKit
import Derived.TacticsInMore
import Derived.RegionIn
import Derived.LoopNIn
import Derived.LoopIn
import Derived.RangeFuncNested
import Derived.Shelf.Abstract
namespace Go.Fw.K
open Go Go.RowKit Go.Proofs Go.Fw
set_option maxRecDepth 100000 in
set_option maxHeartbeats 1000000 in
theorem keysP_come (n : Nat) (hn : 1 ≤ n) (lp Bm b : Nat) (l : List (Pr × Int)) (J Jx : List Pr → World → Prop)
    (hY : ∀ pre x W, J pre W → pre.length < l.length → YieldAt Fence.wide (n - 1) Tryz.prog lp #[pv x] W fun e W' => (e = .returned (.bool true) ∧ J (pre ++ [x]) W' ∧ KeepsWalks W W') ∨ (e = .returned (.bool false) ∧ Jx (pre ++ [x]) W'))
    (W : World) (hJ : AbidesFrom W.heap.size J) (hm : W.cell? ⟨Bm, 0, none⟩ = some (.map (some b))) (hb : W.heap[b]? = some (.map (mE pv iv l 0).toArray l.length)) (h0 : J [] W) :
    CallsIn Fence.wide n Tryz.prog 91 #[.func (.yield lp) #[] #[], .pointer (some ⟨Bm, 0, none⟩)] W fun e W' => (∃ v, e = .returned v) ∧ ((∃ ss : List Pr, ss.Perm (l.map (·.1)) ∧ J ss W') ∨ ∃ pre, True ∧ Jx pre W') := by
  have hblt := (Array.getElem?_eq_some_iff.1 hb).1
  refine callsIn_of_wp Tryz.func91 rfl trivial ?_ rfl
  simp only [Tryz.ntmps91, List.size_toArray, List.length_cons, List.length_nil, Nat.reduceAdd, Nat.reduceSub, Array.replicate_succ, Array.replicate_zero, List.push_toArray, List.append_toArray, List.nil_append, List.cons_append]
  gi_wp2_with (first
    | (gi_at_range; refine wpListIn_range_raw _ rfl _ 71 rfl 57 3 Tryz.underlying71 b _ _ rfl hb ?_)
    | gi_in)
  go_frame
  gi_loopw [3] (fun _ wr => ∃ (seen : Array Nat) (c0 : Nat) (ss : List Pr), wr.heap[W.heap.size]? = some (.mapIter (some b) l.length seen c0) ∧ l.length ≤ c0 ∧ wr.heap[b]? = some (.map (mE pv iv l 0).toArray l.length) ∧ Came l seen ss ∧ J ss wr)
    (fun _ wr => wr.rangeLeft b W.heap.size)
  case atStart =>
    exact ⟨#[], _, [], World.alloc_heap_new W _, Nat.le_refl _, (Below.heap_alloc W _ b hblt).trans hb, Came.start l, hJ [] W _ none h0 (World.grownBy_alloc W _ none) (fun r e => by cases e)⟩
  case round =>
    obtain ⟨seen, c0, ss, hr, hc0, hbr, hC, hJs⟩ := hrel
    gi_wp2_with (first
      | (gi_at_next; refine wpListIn_next_raw _ rfl _ rfl b W.heap.size l.length c0 seen _ l.length rfl hr hbr (mE_old l) hc0 (mE_nodup l) ?_ ?_)
      | gi_in)
    · -- nothing is left
      intro hl0
      gi_wp2
      go_end0
      exact ⟨⟨_, rfl⟩, .inl ⟨ss, hC.perm (ek := pv) (ev' := iv) (by rw [hl0]; rfl), hJs⟩⟩
    · intro e w2 he hg2 hs2 hr2 hb2 hen
      obtain ⟨p, hp, hk, hv, hC2, hlen⟩ := hC.step (ek := pv) (ev' := iv) (Array.mem_toList_iff.2 he)
      rw [hk, hv] at hen ⊢
      have hJ2 : J ss w2 := hJ ss wr w2 (some W.heap.size) hJs hg2 (fun r e => by cases e; exact ⟨Nat.le_refl _, _, hr, rfl⟩)
      have hJ3 : J ss (w2.alloc (.cells #[.int .i64 p.1.1, .int .i64 p.1.2] 57)) := hJ ss w2 _ none hJ2 (World.grownBy_alloc w2 _ none) (fun r e => by cases e)
      obtain ⟨fn, tmps, assign, body, hy, hR⟩ := hY ss p.1 _ hJ3 hlen
      have hlt2 : W.heap.size < w2.heap.size := (Array.getElem?_eq_some_iff.1 hr2).1
      have hbt2 : b < w2.heap.size := (Array.getElem?_eq_some_iff.1 hb2).1
      gi_wp2
      refine hR.mono ?_
      rintro e4 W4 (⟨rfl, hJ4, hk4⟩ | ⟨rfl, hJ4⟩)
      · have hr4 := hk4.same _ _ ((Below.heap_alloc w2 _ _ hlt2).trans hr2) rfl
        have hb4 := hk4.same _ _ ((Below.heap_alloc w2 _ _ hbt2).trans hb2) rfl
        gi_wp2
        go_roundw
        case rel => exact ⟨_, _, _, hr4, Nat.le_refl _, hb4, hC2, hJ4⟩
        case measure => simp only [World.rangeLeft, hr4, hb4, hr, hbr]; exact left_shrinks _ _ _ (Array.mem_toList_iff.2 he)
      · gi_wp2
        refine bodyPost_ret (results_none rfl _ _ _) rfl ?_
        exact ⟨⟨_, rfl⟩, .inr ⟨_, trivial, hJ4⟩⟩
/-- maps.Keys hands back an iterator over the keys. -/
theorem keysP_seq (n : Nat) (hn : 1 ≤ n) (Bm b : Nat) (l : List (Pr × Int)) (w : World) (hBm : Bm < w.heap.size) (hm : w.cell? ⟨Bm, 0, none⟩ = some (.map (some b))) (hb : w.heap[b]? = some (.map (mE pv iv l 0).toArray l.length)) :
    SeqStops Fence.wide n Tryz.prog 91 #[.pointer (some ⟨Bm, 0, none⟩)] pv (fun ss => ss.Perm (l.map (·.1))) (fun _ => True) l.length w := fun lp J Jx W hW hJ _ hY h0 =>
  keysP_come n hn lp Bm b l J Jx hY W hJ ((hW.cell (p := ⟨Bm, 0, none⟩) hBm).trans hm) ((hW.block b (Array.getElem?_eq_some_iff.1 hb).1).trans hb) h0
end Go.Fw.K

/- slices.AppendSeq at pairs, over the iterator of maps.Keys. -/
namespace Go.Fw.K
open Go Go.RowKit Go.Proofs Go.Fw
theorem infoPair : (Tryz.prog.info? 57).map (fun i => (i.zero, i.size, i.bytes)) = some (some (.agg #[.int .i64 0, .int .i64 0]), 2, 16) := by kernel_rfl
abbrev apF (sv u5 u7 : Value) (Bs : Nat) : Act := { tmps := #[.slice none 0 0, sv, .pointer (some ⟨Bs, 0, none⟩), undef, .slice none 0 0, u5, sv, u7, undef, undef, undef, undef, undef], defers := [] }
set_option maxRecDepth 100000 in
set_option maxHeartbeats 2000000 in
theorem appP_calls (n : Nat) (hn : 3 ≤ n) (B b : Nat) (l : List (Pr × Int)) (hN : l.length ≤ 1000000) (w : World) (hB : w.cell? ⟨B, 0, none⟩ = some (.map (some b))) (hb : w.heap[b]? = some (.map (mE pv iv l 0).toArray l.length)) :
    CallsIn Fence.wide n Tryz.prog 109 #[.slice none 0 0, .func (.func 91) #[] #[.pointer (some ⟨B, 0, none⟩)]] w fun e w' =>
      ∃ (v : Value) (L : List Pr), e = .returned v ∧ L.Perm (l.map (·.1)) ∧ w'.ownsRow w.heap.size 57 2 v L.length (pcells L) ∧ Below w.heap.size w w' := by
  have h1 : 1 ≤ n := by omega
  have hblt := (Array.getElem?_eq_some_iff.1 hb).1
  have hBlt : B < w.heap.size := block_of_cell hB
  obtain ⟨i0, hi, hz0, hz1, hz2⟩ := info_parts infoPair
  refine callsIn_of_wp_marks Tryz.func109 rfl trivial ?_ rfl
  simp only [Tryz.ntmps109, List.size_toArray, List.length_cons, List.length_nil, Nat.reduceAdd, Nat.reduceSub, Array.replicate_succ, Array.replicate_zero, List.push_toArray, List.append_toArray, List.nil_append, List.cons_append]
  gi_wp2
  obtain ⟨W0, hW0⟩ : ∃ W0, w.alloc (.cells #[.slice none 0 0] 46) = W0 := ⟨_, rfl⟩
  have hs0 : W0.heap.size = w.heap.size + 1 := by rw [← hW0]; simp
  have hv0 : Boxed W0 w.heap.size 46 (.slice none 0 0) := by rw [← hW0]; exact World.alloc_heap_new w _
  have hb0 : Below w.heap.size w W0 := by rw [← hW0]; exact (Below.refl _ w).alloc (Nat.le_refl _) _
  have hseq := keysP_seq (n - 1) (by omega) B b l W0 (by omega) ((hb0.cell (p := ⟨B, 0, none⟩) hBlt).trans hB) ((hb0.block b hblt).trans hb)
  rw [hW0]
  refine wpIn_rangeFunc_ownH rfl h1 (gf := 91) (lb := #[.pointer (some ⟨B, 0, none⟩)]) rfl trivial (enters_of Tryz.func91 (by kernel_rfl) rfl)
    (encs := fun x => #[pv x]) (Kp := KeepsWalks) hseq (fun h k => h.trans k) (fun W l o o' _ h _ hw => KeepsWalks.putObj _ h hw) (Below.refl _ _) (fun _ => rfl)
    (fun ss W => (∃ v, Boxed W w.heap.size 46 v ∧ W.ownsRow w.heap.size 57 2 v ss.length (pcells ss) ∧ True) ∧ Below w.heap.size w W) (fun _ _ _ => False)
    (((holdsRow_own w.heap.size w.heap.size _ _ 2 List.length pcells fun _ _ => True).from _).and fun s X Y row hs hg hr => hs.grown hg hs.size fun k e => by have := (hr k e).1; omega)
    (fun c s X Y row hs hg hr => hs) ⟨⟨_, hv0, ⟨rfl, .inl ⟨rfl, rfl⟩⟩, trivial⟩, hb0⟩
    (fun x a' W => ∃ q, a' = apF (.func (.func 91) #[] #[.pointer (some ⟨B, 0, none⟩)]) (.pointer (some ⟨q, 0, none⟩)) (pv x) w.heap.size ∧ W.heap[q]? = some (.cells #[.int .i64 x.1, .int .i64 x.2] 57 (0, 0)))
    (fun x a' _ X Y row hs hg hr => by
      obtain ⟨q, e, hq⟩ := hs
      exact ⟨q, e, (grownBy_keeps_cells hg (fun r e => (hr r e).2) hq rfl).trans hq⟩) ?assign ?body ?done (fun D c pre W _ _ h => h.elim)
  case assign =>
    intro lp pre x W K hI hK
    gi_wp2_with (rw [Oper.semAt_eq _ _ _ (fun c h => by cases h)]; go_simp; try go_bits)
    obtain ⟨⟨v, hv, hrow, _⟩, hbw⟩ := hI
    exact hK _ _ ((KeepsOthers.alloc W _).from _) (KeepsWalks.alloc _ _) ⟨⟨v, hv.alloc _, hrow.alloc _, trivial⟩, hbw.alloc hbw.size _⟩ ⟨W.heap.size, rfl, World.alloc_heap_new W _⟩
  case body =>
    rintro lp pre x a' W _ _ ⟨⟨v, hv, hrow, _⟩, hbw⟩ ⟨q, rfl, hq⟩ hlen
    have hc1 := hv.cell
    have hf1 := hv.frozen
    have hq0 : W.cell? ⟨q, 0, none⟩ = some (.int .i64 x.1) := by simp [World.cell?, hq]
    have hq1 : W.cell? ⟨q, 1, none⟩ = some (.int .i64 x.2) := by simp [World.cell?, hq]
    gi_wp2_with (first
      | (gi_at_builtin; refine wpListIn_append_own _ rfl _ _ 46 rfl w.heap.size 57 i0 (.agg #[.int .i64 0, .int .i64 0]) 2 16 Tryz.underlying46 hi hz0 hz1 hz2 rfl (by decide) _ _ _ rfl (hrow.alloc _) ⟨W.heap.size, 0, none⟩ 1 1 (pc x) rfl rfl ?_ ?_ ?_ ?_ ?_ ?_)
      | (rw [Oper.semAt_eq _ _ _ (fun c h => by cases h)]; go_simp; try go_bits))
    · intro j u hj
      rw [add_lit', cell_box (T := 57) (cs := pc x) (World.alloc_heap_new W _), Nat.zero_add]; exact hj
    · exact allOne_pc x
    · show pre.length + 1 ≤ 9223372036854775807; omega
    · omega
    · have := hbw.size; simp; omega
    · intro v' w3 hown' hg3 _
      obtain ⟨g', cap', rfl⟩ := ownsRow_succ hown'
      obtain ⟨hv3, hv4, hrow4, hko, hbel⟩ := Boxed.appended hv (by decide) hrow hbw.size (Nat.le_refl _) hown' hg3
      have hc3 := hv3.cell
      have hf3 := hv3.frozen
      gi_wp2_with (rw [Oper.semAt_eq _ _ _ (fun c h => by cases h)]; go_simp; try go_bits)
      refine ⟨hko.from _, hko.walks, ⟨_, hv4, ?_, trivial⟩, hbw.trans hbel⟩
      rw [List.length_append, ← pcells_snoc]; exact hrow4
  case done =>
    rintro D xs W hD hS ⟨⟨v, hv, hrow, _⟩, hbw⟩ hK
    have hc1 := hv.cell
    gi_wp2
    refine ⟨by simp, .inl ⟨_, _, rfl, run_takeDeferred hK, ?_⟩⟩
    exact ⟨_, results_tmp rfl _ _ _, v, xs, rfl, hS, ownsRow_putObj hrow _ hK rfl, hbw.grown (grownBy_putObj' _ _ _) hbw.size (fun k e => by cases e; omega)⟩
end Go.Fw.K
namespace Go.Fw.K
open Go Go.RowKit Go.Proofs Go.Fw
theorem appP_con {B b : Nat} {l : List (Pr × Int)} (hN : l.length ≤ 1000000) : ConQ Tryz.prog 109 [.slice none 0 0, .func (.func 91) #[] #[.pointer (some ⟨B, 0, none⟩)]] []
    [vCells (some ⟨B, 0, none⟩) [.map (some b)], vMap b (mE pv iv l 0) l.length]
    (fun v rout φo => φo = [] ∧ ∃ (ad : Option Addr) (cap : Nat) (L : List Pr), v = .slice ad L.length cap ∧ L.Perm (l.map (·.1)) ∧ rout = [osl ad L.length cap 57 2 (pcells L)]) := by
  intro w0 p0 p1 w s
  have h1 : (vCells (some ⟨B, 0, none⟩) [.map (some b)]).holds (Xof w0 [] false) w := s.views (false, _) (List.mem_append_left _ List.mem_cons_self)
  have h2 : (vMap b (mE pv iv l 0) l.length).holds (Xof w0 [] false) w := s.views (false, _) (List.mem_append_left _ (List.mem_cons_of_mem _ List.mem_cons_self))
  obtain ⟨a, ha, hc⟩ := CellsAt.some (show CellsAt (Xof w0 [] false) w (some ⟨B, 0, none⟩) [.map (some b)] from h1) (j := 0) rfl
  obtain rfl := Option.some.inj ha
  refine ((callsIn_wide (n := 3)).1 (appP_calls 3 (Nat.le_refl _) B b l hN w hc h2.2)).mono ?_
  rintro e w' ⟨v, L, rfl, hp, hrow, hbel⟩
  have key : ∃ (ad : Option Addr) (cap : Nat), v = .slice ad L.length cap ∧ (osl ad L.length cap 57 2 (pcells L)).holds w' ∧ ∀ k, (osl ad L.length cap 57 2 (pcells L)).key = some k → w.heap.size ≤ k := by
    rcases id hrow with ⟨hx, ⟨hv, h0⟩ | ⟨g, cap, cur, hv, hb, rest⟩⟩
    · refine ⟨none, 0, by rw [hv, h0], ⟨hx, .inl ⟨by rw [h0], h0⟩⟩, fun k hk => by simp [osl, Value.ownBlock] at hk⟩
    · exact ⟨some ⟨g, 0, none⟩, cap, hv, ⟨hx, .inr ⟨g, cap, cur, rfl, Nat.zero_le _, rest⟩⟩, fun k hk => by simp [osl, Value.ownBlock] at hk; omega⟩
  obtain ⟨ad, cap, rfl, hh, hk⟩ := key
  refine ⟨_, _, [], rfl, ⟨rfl, ad, cap, L, rfl, hp, rfl⟩, ?_⟩
  exact (s.addRes (osl ad L.length cap 57 2 (pcells L)) hbel hh hk).weaken fun p hp => by
    simp only [List.map_nil, List.nil_append] at hp
    exact List.mem_append_right _ hp
end Go.Fw.K
