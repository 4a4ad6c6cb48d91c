/- Chapter 18: the comparison that the sort is handed, in whatever world; the sort. -/
import Derived.Test.YtfkfmpfohaomhaaGreatCc
import Derived.Test.YtfkfmpfohaomhaaGreatFwT
import Derived.Test.YtfkfmpfohaomhaaGreatSrt
import Derived.ProofKit
import Derived.StillTailTactics
import Derived.Test.YtfkfmpfohaomhaaGreatProg
namespace Go.Fw.K
open Go Go.RowKit Go.Proofs Go.Fw Go.Sort

set_option maxHeartbeats 1000000 in
theorem cmpW (a b : Int) (W : World) : Calls Tryz.prog 93 #[.int .i64 a, .int .i64 b] W fun e w' => e = .returned (.int .i64 (cmpI a b)) ∧ w' = W := by
  have h : ∀ (n : Int) (W' : World), Calls Tryz.prog 108 #[.int .i64 n] W' fun e w' => e = .returned (.bool false) ∧ w' = W' := by
    intro n W'
    go_enter Tryz.func108, Tryz.ntmps108
    go_wp2
    go_ret
    exact ⟨by simp, rfl⟩
  unfold cmpI
  go_enter Tryz.func93, Tryz.ntmps93
  go_wp2_with (go_at_call 108; refine (h _ _).mono ?_; rintro e w' ⟨rfl, rfl⟩)
  all_goals go_ret
  all_goals simp_all
end Go.Fw.K
namespace Go.Fw.K
open Go Go.RowKit Go.Proofs Go.Fw Go.Sort
set_option maxHeartbeats 1000000 in
theorem orW (g : Nat) (a b : Int) (W : World) (h0 : W.cell? ⟨g, 0, none⟩ = some (.int .i64 a)) (h1 : W.cell? ⟨g, 1, none⟩ = some (.int .i64 b)) :
    Calls Tryz.prog 92 #[.slice (some ⟨g, 0, none⟩) 2 2] W fun e w' => e = .returned (.int .i64 (or2 a b)) ∧ w' = W := by
  have hr : ∀ (x : Int), x ≠ 0 → (x != 0) = true := fun x h => by simpa using h
  unfold or2
  by_cases ha : a = 0
  · subst ha
    by_cases hb : b = 0
    · subst hb
      go_enter Tryz.func92, Tryz.ntmps92
      go_wp2
      refine wp_loop_rounds 3 ?_
      rw [rounds_succ]
      go_wp2
      rw [rounds_succ]
      go_wp2
      rw [rounds_succ]
      go_wp2
      go_ret
      exact ⟨by simp, rfl⟩
    · go_enter Tryz.func92, Tryz.ntmps92
      go_wp2
      refine wp_loop_rounds 3 ?_
      rw [rounds_succ]
      go_wp2
      rw [rounds_succ]
      go_wp2
      all_goals go_ret
      all_goals simp_all
  · go_enter Tryz.func92, Tryz.ntmps92
    go_wp2
    refine wp_loop_rounds 3 ?_
    rw [rounds_succ]
    go_wp2
    all_goals go_ret
    all_goals simp_all
end Go.Fw.K
namespace Go.Fw.K
open Go Go.RowKit Go.Proofs Go.Fw Go.Sort
set_option maxHeartbeats 1000000 in
set_option maxRecDepth 20000 in
theorem orderW (p q : Pr) (W : World) : Calls Tryz.prog 57 #[pv p, pv q] W fun e w' => e = .returned (.int .i64 (cmpPr p q)) ∧ ∃ n os, w' = grow (W.drewN n) os := by
  have hc := cmpW p.1 q.1
  have hc2 := cmpW p.2 q.2
  have ho := orW
  show Calls Tryz.prog 57 #[pv p, pv q] W fun e w' => e = .returned (.int .i64 (or2 (cmpI p.1 q.1) (cmpI p.2 q.2))) ∧ ∃ n os, w' = grow (W.drewN n) os
  generalize cmpI p.1 q.1 = x at hc ⊢
  generalize cmpI p.2 q.2 = y at hc2 ⊢
  obtain ⟨p1, p2⟩ := p
  obtain ⟨q1, q2⟩ := q
  go_enter Tryz.func57, Tryz.ntmps57
  go_wp2
  refine wp_region_still_tail 9 (by kernel_rfl) (by kernel_rfl) ?_
  simp only [List.take_succ_cons, List.take_zero, List.drop_succ_cons, List.drop_zero]
  generalize hW1 : World.mk (World.heap _) (World.tape _) (World.drawn _ + 1) (World.os _) (World.output _) = W1
  have hg : W1 = grow (W.drewN 1) #[.cells #[.int .i64 p1, .int .i64 p2] 57, .cells #[.int .i64 q1, .int .i64 q2] 57] := by rw [← hW1, alloc_eq_grow, alloc_eq_grow, grow_grow]; rfl
  have hb0 : W1.heap[W.heap.size]? = some (.cells #[.int .i64 p1, .int .i64 p2] 57) := by
    rw [hg]; show (W.heap ++ _)[W.heap.size]? = _
    rw [Array.getElem?_append_right (Nat.le_refl _), Nat.sub_self]; rfl
  have hb1 : W1.heap[W.heap.size + 1]? = some (.cells #[.int .i64 q1, .int .i64 q2] 57) := by
    rw [hg]; show (W.heap ++ _)[W.heap.size + 1]? = _
    rw [Array.getElem?_append_right (by omega), show W.heap.size + 1 - W.heap.size = 1 from by omega]; rfl
  have h00 : W1.cell? ⟨W.heap.size, 0, none⟩ = some (.int .i64 p1) := by simp [World.cell?, hb0]
  have h01 : W1.cell? ⟨W.heap.size, 1, none⟩ = some (.int .i64 p2) := by simp [World.cell?, hb0]
  have h10 : W1.cell? ⟨W.heap.size + 1, 0, none⟩ = some (.int .i64 q1) := by simp [World.cell?, hb1]
  have h11 : W1.cell? ⟨W.heap.size + 1, 1, none⟩ = some (.int .i64 q2) := by simp [World.cell?, hb1]
  have hex : ∃ os, W1 = grow (W.drewN 1) os := ⟨_, hg⟩
  clear hW1 hg hb0 hb1
  repeat still_step
  still_call (hc _)
  repeat still_step
  refine wpStill_nil ?_
  go_wp2_with (go_at_call 93; refine (hc2 _).mono ?_; rintro e w' ⟨rfl, rfl⟩)
  obtain ⟨os, hos⟩ := hex
  refine (ho _ x y _ (World.cell?_alloc_at _ _ _ _ rfl) (World.cell?_alloc_at _ _ _ _ rfl)).mono ?_
  rintro e w2 ⟨rfl, rfl⟩
  go_wp2
  go_ret
  exact ⟨rfl, 1, os ++ #[.cells #[.int .i64 x, .int .i64 y] 3], by rw [alloc_eq_grow, grow_grow]⟩
end Go.Fw.K

namespace Go.Fw
open Go Go.RowKit Go.Proofs Go.Sort Go.Shelf
theorem flatK_pcells (l : List Pr) : (flatK pc 2 l.toArray).toList = pcells l := by
  apply List.ext_getElem?
  intro t
  rcases Nat.lt_or_ge t (l.length * 2) with h | h
  · have h1 : (flatK pc 2 l.toArray).toList[t]? = some ((flatK pc 2 l.toArray)[t]!) := by
      rw [Array.getElem?_toList, getElem!_pos _ t (by simpa using h)]
      exact Array.getElem?_eq_getElem (by simpa using h)
    rw [h1, get_flatK pc 2 l.toArray t (by simpa using h)]
    have hj : t / 2 < l.length := by omega
    have h2 := pcells_get (getD_some hj) (t % 2) (by omega)
    rw [show t / 2 * 2 + t % 2 = t from by omega] at h2
    rw [h2]
    have h3 : (l.toArray[t / 2]!) = l.getD (t / 2) dP := by
      rw [getElem!_pos l.toArray (t / 2) (by simpa using hj)]
      rw [List.getD_eq_getElem?_getD, List.getElem?_eq_getElem hj]; simp
    rw [h3]
    rcases (show t % 2 = 0 ∨ t % 2 = 1 by omega) with e | e <;> rw [e] <;> rfl
  · rw [List.getElem?_eq_none (by simpa using h), List.getElem?_eq_none (by rw [pcells_length]; exact h)]
theorem swo_cmpPr : SWO (ltOf cmpPr) where
  irrefl x := by
    unfold ltOf
    rw [decide_eq_false]; intro h; exact ltP.irr x (cmpPr_neg.1 h)
  trans x y z h1 h2 := by
    unfold ltOf at *
    rw [decide_eq_true_eq] at *
    exact cmpPr_neg.2 ((cmpPr_neg.1 h1).trans (cmpPr_neg.1 h2))
  ntrans x y z h1 h2 := by
    unfold ltOf at *
    rw [decide_eq_false_iff_not] at *
    rw [cmpPr_neg] at *
    intro h
    rcases ltP.tri x y with e | e | e
    · exact h1 e
    · subst e; exact h2 h
    · exact h2 (e.trans h)
end Go.Fw
namespace Go.Fw.K
open Go Go.RowKit Go.Proofs Go.Fw Go.Sort Go.Shelf
theorem order_lays (blk off size : Nat) (w : World) : CmpLays Tryz.prog 57 #[] pc 2 cmpPr blk off size w := fun _ _ _ _ x y => orderW x y _
/-- slices.SortFunc of pairs, which is handed an own slice. -/
theorem sort_con {ad : Option Addr} {cap : Nat} {l : List Pr} (hl : l.length ≤ 1000000) : ConO Tryz.prog 90 [.slice ad l.length cap, .func (.func 57) #[] #[]] [osl ad l.length cap 57 2 (pcells l)] []
    (fun v rout φo => v = .tuple #[] ∧ φo = [] ∧ ∃ d : List Pr, d.Perm l ∧ d.length = l.length ∧ (∀ i j, i < j → j < d.length → ¬ ltP (d.getD j dP) (d.getD i dP)) ∧ rout = [osl ad l.length cap 57 2 (pcells d)]) := by
  intro w0 p0 p1 w s
  have hown := s.own _ List.mem_cons_self
  by_cases h0 : l = []
  · subst h0
    refine (AnyF.slices_SortFunc_none Tryz.laysSortPair ad cap _ w).mono ?_
    rintro e w' ⟨rfl, rfl⟩
    exact ⟨_, _, [], rfl, ⟨rfl, rfl, [], List.Perm.refl _, rfl, fun i j _ hj => by simp at hj, rfl⟩, s⟩
  · obtain ⟨hxl, hown2⟩ := id hown
    rcases hown2 with ⟨hv, hn0⟩ | ⟨g, cap', cur, hv, hb, hgg, hnc, hcm, hsz, htake⟩
    · exact absurd (List.eq_nil_of_length_eq_zero hn0) h0
    · simp only [Value.slice.injEq] at hv
      obtain ⟨rfl, _, rfl⟩ := hv
      have hblk : g < w.heap.size := (Array.getElem?_eq_some_iff.1 hgg).1
      have hH : HoldsK pc 2 w g 0 l.toArray := by
        intro j hj
        have hj' : j < l.length * 2 := by simpa using hj
        have hc : cur.toList[j]? = (pcells l)[j]? := by
          rw [← htake, List.getElem?_take, if_pos hj']
        have he : (flatK pc 2 l.toArray)[j]! = (pcells l)[j]'(by rw [pcells_length]; exact hj') := by
          have h1 := congrArg (fun L : List Value => L[j]?) (flatK_pcells l)
          simp only [Array.getElem?_toList] at h1
          rw [Array.getElem?_eq_getElem (by simpa using hj'), List.getElem?_eq_getElem (by rw [pcells_length]; exact hj')] at h1
          rw [getElem!_pos _ j (by simpa using hj')]
          exact Option.some.inj h1
        rw [List.getElem?_eq_getElem (l := pcells l) (by rw [pcells_length]; exact hj'), Array.getElem?_toList] at hc
        constructor
        · rw [Nat.zero_add, he]
          unfold World.cell?
          simp only [hgg]
          exact hc
        · unfold World.frozen?
          simp [hgg]
      have eg : ∀ args w, (callFunc 57 args).run Tryz.prog w = .ok (.enter 57 args) w := enters_of Tryz.func57 (by kernel_rfl) rfl
      have hcon := AnyQ.slices_SortFunc Tryz.laysSortPair 2 Tryz.isAgg57 Tryz.sizeOf57 pc (fun _ => rfl) (fun x v hv => allOne_pc x v hv) cmpPr swo_cmpPr 57 #[] g 0 cap l.toArray w eg (order_lays g 0 _ w) hH hblk (by simp; omega)
      have hcon2 : Calls Tryz.prog 90 #[.slice (some ⟨g, 0, none⟩) l.toArray.size cap, .func (.func 57) #[] #[]] w _ := hcon
      rw [List.size_toArray] at hcon2
      refine hcon2.mono ?_
      rintro e w' ⟨rfl, d', n, os, hp, hs, rfl⟩
      obtain ⟨d, rfl⟩ : ∃ d : List Pr, d.toArray = d' := ⟨d'.toList, by simp⟩
      have hdl : d.length = l.length := by simpa using hp.1
      have hperm : d.Perm l := by
        have := hp.2.2
        have e1 : (d.toArray.extract 0 l.length).toList = d := by rw [← hdl]; simp
        have e2 : (l.toArray.extract 0 l.length).toList = l := by simp
        rwa [e1, e2] at this
      refine ⟨_, [osl (some ⟨g, 0, none⟩) l.length cap 57 2 (pcells d)], [], rfl, ⟨rfl, rfl, d, hperm, hdl, fun i j hij hj hlt => ?_, rfl⟩, ?_⟩
      · have h1 := hs i j (Nat.zero_le _) hij (by rw [← hdl]; exact hj)
        unfold ltOf at h1
        rw [decide_eq_false_iff_not, cmpPr_neg] at h1
        have e : ∀ k, k < d.length → d.toArray[k]! = d.getD k dP := fun k hk => by
          rw [getElem!_pos d.toArray k (by simpa using hk), List.getD_eq_getElem?_getD, List.getElem?_eq_getElem hk]; simp
        rw [e i (by omega), e j hj] at h1
        exact h1 hlt
      · have hF : (flatK pc 2 d.toArray).size = l.length * 2 := by rw [size_flatK, List.size_toArray, hdl]
        have hsize : (putRow id (Sort.ahead w n) g 0 (flatK pc 2 d.toArray)).heap.size = w.heap.size := by rw [Go.Sort.size_putRow]; rfl
        refine s.setRes (w' := sortWorldK pc 2 w g 0 n d.toArray os) 0 _ (osl (some ⟨g, 0, none⟩) l.length cap 57 2 (pcells d)) rfl ?_ rfl rfl rfl ?_ ?_ (fun k hk => .inl hk)
        · show w.heap.size ≤ ((putRow id (Sort.ahead w n) g 0 (flatK pc 2 d.toArray)).heap ++ os).size
          rw [Array.size_append, hsize]; omega
        · intro k hk hne
          have hkg : g ≠ k := fun e => hne (by simp [osl, Value.ownBlock, e])
          show ((putRow id (Sort.ahead w n) g 0 (flatK pc 2 d.toArray)).heap ++ os)[k]? = w.heap[k]?
          rw [Array.getElem?_append_left (by rw [hsize]; exact hk)]
          unfold putRow mapBlock
          simp only [Array.getElem?_modify]
          rw [if_neg hkg]; rfl
        · have hg' : (sortWorldK pc 2 w g 0 n d.toArray os).heap[g]? = some (.cells (putCells id 0 (flatK pc 2 d.toArray) cur) 57 (0, 0)) := by
            show ((putRow id (Sort.ahead w n) g 0 (flatK pc 2 d.toArray)).heap ++ os)[g]? = _
            rw [Array.getElem?_append_left (by rw [hsize]; exact hblk)]
            unfold putRow mapBlock
            simp only [Array.getElem?_modify]
            rw [if_pos trivial]
            show Option.map _ w.heap[g]? = _
            rw [hgg]; rfl
          refine ⟨by rw [pcells_length, hdl], .inr ⟨g, cap, _, rfl, Nat.zero_le _, hg', hnc, hcm, by simp [putCells, hsz], ?_⟩⟩
          apply List.ext_getElem?
          intro t
          rw [← flatK_pcells d]
          rcases Nat.lt_or_ge t (l.length * 2) with ht | ht
          · rw [List.getElem?_take, if_pos ht, Array.getElem?_toList, Array.getElem?_toList]
            have h1 : t < cur.size := by rw [hsz]; have : l.length * 2 ≤ cap * 2 := Nat.mul_le_mul_right _ hnc; omega
            simp only [putCells, Array.getElem?_mapIdx]
            rw [Array.getElem?_eq_getElem h1, Array.getElem?_eq_getElem (by rw [hF]; exact ht)]
            simp [hF, ht]
          · rw [List.getElem?_eq_none (by rw [List.length_take]; omega), List.getElem?_eq_none (by rw [Array.length_toList, hF]; exact ht)]
end Go.Fw.K
