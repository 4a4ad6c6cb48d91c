/- Entries of maps after deletions: what is kept, and what comes out of loops over them. Plain. -/
import Derived.Test.YtfkfmpfohaomhaaGreatFwXY
import Derived.Test.YtfkfmpfohaomhaaGreatCc
import Derived.Test.YtfkfmpfohaomhaaGreatProg
import Derived.RangeFuncStops
import Derived.RangeFuncOwn
import Derived.Sort.MapsRangeIn
import Derived.WalkKit
import Derived.TacticsInMore
import Derived.RegionIn
import Derived.LoopNIn
import Derived.LoopIn
import Derived.RangeFuncNested
import Derived.Shelf.Abstract
namespace Go.Fw
open Go Go.RowKit
theorem eraseIdx_born : ∀ {L : List MapEntry} {j : Nat} {e : MapEntry}, (L.map (·.born)).Nodup → L[j]? = some e → L.eraseIdx j = L.filter fun x => x.born != e.born
  | [], _, _, _, h => by simp at h
  | x :: L, 0, e, hn, h => by
    simp at h; subst h
    have hn' := List.nodup_cons.1 hn
    rw [List.eraseIdx_zero, List.tail_cons, List.filter_cons, if_neg (by simp)]
    exact (List.filter_eq_self.2 fun y hy => by simp only [bne_iff_ne, ne_eq]; exact fun e => hn'.1 (by show x.born ∈ _; rw [← e]; exact List.mem_map.2 ⟨y, hy, rfl⟩)).symm
  | x :: L, j + 1, e, hn, h => by
    have hn' := List.nodup_cons.1 hn
    have h' : L[j]? = some e := by simpa using h
    have hm : e ∈ L := List.mem_of_getElem? h'
    have hne : x.born ≠ e.born := fun e' => hn'.1 (by show x.born ∈ _; rw [e']; exact List.mem_map.2 ⟨e, hm, rfl⟩)
    rw [List.eraseIdx_cons_succ, List.filter_cons, if_pos (by simpa using hne), eraseIdx_born hn'.2 h']
section
variable {α β : Type} {ek : α → Value} {ev' : β → Value} (l : List (α × β)) (del : MapEntry → Bool)
def keptM (ek : α → Value) (ev' : β → Value) (l : List (α × β)) (del : MapEntry → Bool) (seen : List Nat) : List MapEntry := (mE ek ev' l 0).filter fun x => !(seen.contains x.born && del x)
variable {l del}
theorem keptM_start : keptM ek ev' l del [] = mE ek ev' l 0 := List.filter_eq_self.2 fun x _ => by simp
theorem keptM_sub {seen : List Nat} {x : MapEntry} (h : x ∈ keptM ek ev' l del seen) : x ∈ mE ek ev' l 0 := (List.mem_filter.1 h).1
theorem mE_bornN (l : List (α × β)) : ((mE ek ev' l 0).map (·.born)).Nodup := by rw [mE_born]; exact List.nodup_range'
theorem keptM_nodup {seen : List Nat} : ((keptM ek ev' l del seen).map (·.born)).Nodup := (mE_bornN l).sublist (List.filter_sublist.map _)
theorem keptM_old {seen : List Nat} : ∀ e ∈ keptM ek ev' l del seen, e.born < l.length := fun e he => mE_old l e (keptM_sub he)
theorem keptM_keys {seen : List Nat} : ∀ e ∈ keptM ek ev' l del seen, ∃ a, e.key = ek a := fun e he => by
  obtain ⟨j, p, _, rfl⟩ := mE_mem (keptM_sub he); exact ⟨p.1, rfl⟩
theorem keptM_stay {seen : List Nat} {e : MapEntry} (he : e ∈ mE ek ev' l 0) (hd : del e = false) : keptM ek ev' l del (seen ++ [e.born]) = keptM ek ev' l del seen := by
  refine List.filter_congr fun x hx => ?_
  by_cases hb : x.born = e.born
  · have : x = e := by
      obtain ⟨j, p, hj, rfl⟩ := mE_mem hx
      obtain ⟨j', p', hj', rfl⟩ := mE_mem he
      obtain rfl : j = j' := by simpa using hb
      rw [hj] at hj'; rw [Option.some.inj hj']
    subst this
    rw [hd]; simp
  · have : (seen ++ [e.born]).contains x.born = seen.contains x.born := by simp [hb]
    rw [this]
theorem keptM_del {seen : List Nat} {e : MapEntry} {j : Nat} (hj : (keptM ek ev' l del seen)[j]? = some e) (hd : del e = true) : (keptM ek ev' l del seen).eraseIdx j = keptM ek ev' l del (seen ++ [e.born]) := by
  rw [eraseIdx_born keptM_nodup hj]
  unfold keptM
  rw [List.filter_filter]
  refine List.filter_congr fun x hx => ?_
  have he := keptM_sub (List.mem_of_getElem? hj)
  by_cases hb : x.born = e.born
  · have : x = e := by
      obtain ⟨i1, p, hi, rfl⟩ := mE_mem hx
      obtain ⟨i2, p', hi', rfl⟩ := mE_mem he
      obtain rfl : i1 = i2 := by simpa using hb
      rw [hi] at hi'; rw [Option.some.inj hi']
    subst this
    rw [hd]; simp
  · simp [hb]
theorem keptM_one (hl : (l.map (·.1)).Nodup) {seen : List Nat} {e e' : MapEntry} (he : e ∈ keptM ek ev' l del seen) (he' : e' ∈ keptM ek ev' l del seen) (hk : e.key = e'.key) (hinj : ∀ {a b : α}, ek a = ek b → a = b) : e = e' := by
  obtain ⟨j, p, hj, rfl⟩ := mE_mem (keptM_sub he)
  obtain ⟨j', p', hj', rfl⟩ := mE_mem (keptM_sub he')
  have h1 : p.1 = p'.1 := hinj hk
  have hlt := (List.getElem?_eq_some_iff.1 hj).1
  have hlt' := (List.getElem?_eq_some_iff.1 hj').1
  have : j = j' := by
    have e1 : (l.map (·.1))[j]? = some p.1 := by rw [List.getElem?_map, hj]; rfl
    have e2 : (l.map (·.1))[j']? = some p.1 := by rw [List.getElem?_map, hj', h1]; rfl
    exact (List.getElem?_inj (by rw [List.length_map]; exact hlt) hl).1 (e1.trans e2.symm)
  subst this
  rw [hj] at hj'
  rw [Option.some.inj hj']
theorem keptM_end {seen : List Nat} (h : ∀ e ∈ keptM ek ev' l del seen, e.born ∈ seen) : keptM ek ev' l del seen = (mE ek ev' l 0).filter fun x => !del x := by
  refine List.filter_congr fun x hx => ?_
  by_cases hs : x.born ∈ seen
  · have : seen.contains x.born = true := by simpa using hs
    rw [this, Bool.true_and]
  · have h2 : seen.contains x.born = false := by simpa using hs
    exact absurd (h x (List.mem_filter.2 ⟨hx, by rw [h2]; rfl⟩)) hs
/-- the entries that have not come -/
def leftN (ek : α → Value) (ev' : β → Value) (l : List (α × β)) (seen : List Nat) : Nat := (leftOf (mE ek ev' l 0).toArray seen.toArray).size
theorem leftN_lt {seen : List Nat} {e : MapEntry} (he : e ∈ mE ek ev' l 0) (hs : e.born ∉ seen) : leftN ek ev' l (seen ++ [e.born]) < leftN ek ev' l seen := by
  have h := left_shrinks (mE ek ev' l 0).toArray seen.toArray e (by unfold leftOf; simp [he, hs])
  unfold leftN
  rw [show (seen ++ [e.born]).toArray = seen.toArray.push e.born from by simp]
  exact h
end
/-! ## What has come -/
section
variable {α : Type} (kd : MapEntry → α)
theorem find_bornL : ∀ {es : List MapEntry} {e : MapEntry}, (es.map (·.born)).Nodup → e ∈ es → es.find? (fun x => x.born == e.born) = some e
  | [], _, _, h => by cases h
  | x :: es, e, hn, h => by
    have hn' := List.nodup_cons.1 hn
    rw [List.find?_cons]
    rcases List.mem_cons.1 h with rfl | h
    · simp
    · have hne : x.born ≠ e.born := fun e' => hn'.1 (by show x.born ∈ _; rw [e']; exact List.mem_map.2 ⟨e, h, rfl⟩)
      have : (x.born == e.born) = false := by simpa using hne
      rw [this]
      exact find_bornL hn'.2 h
def CameE (kd : MapEntry → α) (es : List MapEntry) (seen : Array Nat) (ss : List α) : Prop := seen.toList.Nodup ∧ (∀ j ∈ seen.toList, j ∈ es.map (·.born)) ∧ ss = seen.toList.filterMap fun j => (es.find? fun x => x.born == j).map kd
variable {kd}
theorem CameE.start (es : List MapEntry) : CameE kd es #[] [] := ⟨List.nodup_nil, (fun _ h => by simp at h), rfl⟩
theorem CameE.step {es : List MapEntry} (hn : (es.map (·.born)).Nodup) {seen : Array Nat} {ss : List α} (h : CameE kd es seen ss) {e : MapEntry} (he : e ∈ (leftOf es.toArray seen).toList) :
    e ∈ es ∧ CameE kd es (seen.push e.born) (ss ++ [kd e]) ∧ ss.length < es.length := by
  obtain ⟨h1, h2, rfl⟩ := h
  obtain ⟨hm, hc⟩ := mem_left he
  have hm : e ∈ es := hm
  have hj' : e.born ∉ seen.toList := fun hx => by
    have : seen.contains e.born = true := by rw [Array.contains_iff_mem]; exact Array.mem_toList_iff.1 hx
    rw [this] at hc; cases hc
  have hnn : (seen.toList ++ [e.born]).Nodup := List.nodup_append.2 ⟨h1, by simp, fun a ha b hb e' => by simp only [List.mem_singleton] at hb; subst hb e'; exact hj' ha⟩
  have hmb : e.born ∈ es.map (·.born) := List.mem_map.2 ⟨e, hm, rfl⟩
  have hle : (seen.toList ++ [e.born]).length ≤ (es.map (·.born)).length := by
    refine nodup_le hnn fun x hx => ?_
    rcases List.mem_append.1 hx with hx | hx
    · exact h2 x hx
    · rw [List.mem_singleton.1 hx]; exact hmb
  have hfl : (seen.toList.filterMap fun j => (es.find? fun x => x.born == j).map kd).length ≤ seen.toList.length := List.length_filterMap_le ..
  refine ⟨hm, ⟨by simpa using hnn, fun x hx => ?_, ?_⟩, ?_⟩
  · simp only [Array.toList_push, List.mem_append, List.mem_singleton] at hx
    rcases hx with hx | rfl
    · exact h2 x hx
    · exact hmb
  · simp [List.filterMap_append, find_bornL hn hm]
  · simp only [List.length_append, List.length_cons, List.length_nil, List.length_map] at hle
    omega
theorem CameE.perm {es : List MapEntry} (hn : (es.map (·.born)).Nodup) {seen : Array Nat} {ss : List α} (h : CameE kd es seen ss) (h0 : (leftOf es.toArray seen).size = 0) : ss.Perm (es.map kd) := by
  obtain ⟨h1, h2, rfl⟩ := h
  have hp : seen.toList.Perm (es.map (·.born)) := by
    refine (List.perm_ext_iff_of_nodup h1 hn).2 fun j => ⟨fun hj => h2 j hj, fun hj => ?_⟩
    obtain ⟨e, he, rfl⟩ := List.mem_map.1 hj
    have := all_seen _ _ h0 e he
    rw [Array.contains_iff_mem] at this
    exact Array.mem_toList_iff.2 this
  have e : (es.map (·.born)).filterMap (fun j => (es.find? fun x => x.born == j).map kd) = es.map kd := by
    rw [List.filterMap_map]
    have : ∀ L : List MapEntry, (∀ x ∈ L, x ∈ es) → L.filterMap ((fun j => (es.find? fun x => x.born == j).map kd) ∘ fun x => x.born) = L.map kd := by
      intro L
      induction L with
      | nil => intro _; rfl
      | cons x L ih =>
        intro hL
        rw [List.filterMap_cons, List.map_cons]
        simp only [Function.comp, find_bornL hn (hL x List.mem_cons_self), Option.map_some]
        rw [← ih fun y hy => hL y (List.mem_cons_of_mem _ hy)]
    exact this es fun x hx => hx
  rw [← e]
  exact hp.filterMap _
end
def kdI (e : MapEntry) : Int := match e.key with | .int _ n => n | _ => 0
end Go.Fw

/- maps.Keys at maps whose keys are numbers: the iterator. -/
namespace Go.Fw
open Go Go.RowKit
/-- entries of a map over numbers -/
structure EsI (es : List MapEntry) (c : Nat) : Prop where
  old : ∀ x ∈ es, x.born < c
  nodup : (es.map (·.born)).Nodup
  keys : ∀ e ∈ es, e.key = iv (kdI e)
end Go.Fw
namespace Go.Fw.K
open Go Go.RowKit Go.Proofs Go.Fw
set_option maxRecDepth 100000 in
set_option maxHeartbeats 1000000 in
theorem keysI_come (n : Nat) (hn : 1 ≤ n) (lp Bm b : Nat) (es : List MapEntry) (c : Nat) (J Jx : List Int → World → Prop)
    (hY : ∀ pre x W, J pre W → pre.length < es.length → YieldAt Fence.wide (n - 1) Tryz.prog lp #[iv x] W fun e W' => (e = .returned (.bool true) ∧ J (pre ++ [x]) W' ∧ KeepsWalks W W') ∨ (e = .returned (.bool false) ∧ Jx (pre ++ [x]) W'))
    (W : World) (hJ : AbidesFrom W.heap.size J) (hm : W.cell? ⟨Bm, 0, none⟩ = some (.map (some b))) (hb : W.heap[b]? = some (.map es.toArray c)) (hE : EsI es c) (h0 : J [] W) :
    CallsIn Fence.wide n Tryz.prog 59 #[.func (.yield lp) #[] #[], .pointer (some ⟨Bm, 0, none⟩)] W fun e W' => (∃ v, e = .returned v) ∧ ((∃ ss : List Int, ss.Perm (es.map kdI) ∧ J ss W') ∨ ∃ pre, True ∧ Jx pre W') := by
  have hblt := (Array.getElem?_eq_some_iff.1 hb).1
  refine callsIn_of_wp Tryz.func59 rfl trivial ?_ rfl
  simp only [Tryz.ntmps59, List.size_toArray, List.length_cons, List.length_nil, Nat.reduceAdd, Nat.reduceSub, Array.replicate_succ, Array.replicate_zero, List.push_toArray, List.append_toArray, List.nil_append, List.cons_append]
  gi_wp2_with (first
    | (gi_at_range; refine wpListIn_range_raw _ rfl _ 74 rfl 3 3 Tryz.underlying74 b _ _ rfl hb ?_)
    | gi_in)
  go_frame
  gi_loopw [3] (fun _ wr => ∃ (seen : Array Nat) (c0 : Nat) (ss : List Int), wr.heap[W.heap.size]? = some (.mapIter (some b) c seen c0) ∧ c ≤ c0 ∧ wr.heap[b]? = some (.map es.toArray c) ∧ CameE kdI es seen ss ∧ J ss wr)
    (fun _ wr => wr.rangeLeft b W.heap.size)
  case atStart =>
    exact ⟨#[], _, [], World.alloc_heap_new W _, Nat.le_refl _, (Below.heap_alloc W _ b hblt).trans hb, CameE.start es, hJ [] W _ none h0 (World.grownBy_alloc W _ none) (fun r e => by cases e)⟩
  case round =>
    obtain ⟨seen, c0, ss, hr, hc0, hbr, hC, hJs⟩ := hrel
    gi_wp2_with (first
      | (gi_at_next; refine wpListIn_next_raw _ rfl _ rfl b W.heap.size c c0 seen _ c rfl hr hbr hE.old hc0 hE.nodup ?_ ?_)
      | gi_in)
    · -- nothing is left
      intro hl0
      gi_wp2
      go_end0
      exact ⟨⟨_, rfl⟩, .inl ⟨ss, hC.perm hE.nodup (by rw [hl0]; rfl), hJs⟩⟩
    · intro e w2 he hg2 hs2 hr2 hb2 hen
      obtain ⟨hme, hC2, hlen⟩ := hC.step hE.nodup (Array.mem_toList_iff.2 he)
      have hk := hE.keys e hme
      rw [hk] at hen ⊢
      have hJ2 : J ss w2 := hJ ss wr w2 (some W.heap.size) hJs hg2 (fun r e => by cases e; exact ⟨Nat.le_refl _, _, hr, rfl⟩)
      obtain ⟨fn, tmps, assign, body, hy, hR⟩ := hY ss (kdI e) _ hJ2 hlen
      gi_wp2
      refine hR.mono ?_
      rintro e4 W4 (⟨rfl, hJ4, hk4⟩ | ⟨rfl, hJ4⟩)
      · have hr4 := hk4.same _ _ hr2 rfl
        have hb4 := hk4.same _ _ hb2 rfl
        gi_wp2
        go_roundw
        case rel => exact ⟨_, _, _, hr4, Nat.le_refl _, hb4, hC2, hJ4⟩
        case measure => simp only [World.rangeLeft, hr4, hb4, hr, hbr]; exact left_shrinks _ _ _ (Array.mem_toList_iff.2 he)
      · gi_wp2
        refine bodyPost_ret (results_none rfl _ _ _) rfl ?_
        exact ⟨⟨_, rfl⟩, .inr ⟨_, trivial, hJ4⟩⟩
/-- maps.Keys hands back an iterator over the keys. -/
theorem keysI_seq (n : Nat) (hn : 1 ≤ n) (Bm b : Nat) (es : List MapEntry) (c : Nat) (w : World) (hBm : Bm < w.heap.size) (hm : w.cell? ⟨Bm, 0, none⟩ = some (.map (some b))) (hb : w.heap[b]? = some (.map es.toArray c)) (hE : EsI es c) :
    SeqStops Fence.wide n Tryz.prog 59 #[.pointer (some ⟨Bm, 0, none⟩)] iv (fun ss => ss.Perm (es.map kdI)) (fun _ => True) es.length w := fun lp J Jx W hW hJ _ hY h0 =>
  keysI_come n hn lp Bm b es c J Jx hY W hJ ((hW.cell (p := ⟨Bm, 0, none⟩) hBm).trans hm) ((hW.block b (Array.getElem?_eq_some_iff.1 hb).1).trans hb) hE h0
end Go.Fw.K

/- slices.AppendSeq at numbers, over the iterator of maps.Keys. -/
namespace Go.Fw.K
open Go Go.RowKit Go.Proofs Go.Fw
theorem infoInt : (Tryz.prog.info? 3).map (fun i => (i.zero, i.size, i.bytes)) = some (some (.int .i64 0), 1, 8) := by kernel_rfl
abbrev apFI (sv u5 u7 : Value) (Bs : Nat) : Act := { tmps := #[.slice none 0 0, sv, .pointer (some ⟨Bs, 0, none⟩), undef, .slice none 0 0, u5, sv, u7, undef, undef, undef, undef, undef], defers := [] }
set_option maxRecDepth 100000 in
set_option maxHeartbeats 2000000 in
theorem appI_calls (n : Nat) (hn : 3 ≤ n) (B b : Nat) (es : List MapEntry) (c : Nat) (hE : EsI es c) (hN : es.length ≤ 1000000) (w : World) (hB : w.cell? ⟨B, 0, none⟩ = some (.map (some b))) (hb : w.heap[b]? = some (.map es.toArray c)) :
    CallsIn Fence.wide n Tryz.prog 94 #[.slice none 0 0, .func (.func 59) #[] #[.pointer (some ⟨B, 0, none⟩)]] w fun e w' =>
      ∃ (v : Value) (L : List Int), e = .returned v ∧ L.Perm (es.map kdI) ∧ w'.ownsRow w.heap.size 3 1 v L.length (i64s L) ∧ Below w.heap.size w w' := by
  have h1 : 1 ≤ n := by omega
  have hblt := (Array.getElem?_eq_some_iff.1 hb).1
  have hBlt : B < w.heap.size := block_of_cell hB
  obtain ⟨i0, hi, hz0, hz1, hz2⟩ := info_parts infoInt
  refine callsIn_of_wp_marks Tryz.func94 rfl trivial ?_ rfl
  simp only [Tryz.ntmps94, List.size_toArray, List.length_cons, List.length_nil, Nat.reduceAdd, Nat.reduceSub, Array.replicate_succ, Array.replicate_zero, List.push_toArray, List.append_toArray, List.nil_append, List.cons_append]
  gi_wp2
  obtain ⟨W0, hW0⟩ : ∃ W0, w.alloc (.cells #[.slice none 0 0] 36) = W0 := ⟨_, rfl⟩
  have hs0 : W0.heap.size = w.heap.size + 1 := by rw [← hW0]; simp
  have hv0 : Boxed W0 w.heap.size 36 (.slice none 0 0) := by rw [← hW0]; exact World.alloc_heap_new w _
  have hb0 : Below w.heap.size w W0 := by rw [← hW0]; exact (Below.refl _ w).alloc (Nat.le_refl _) _
  have hseq := keysI_seq (n - 1) (by omega) B b es c W0 (by omega) ((hb0.cell (p := ⟨B, 0, none⟩) hBlt).trans hB) ((hb0.block b hblt).trans hb) hE
  rw [hW0]
  refine wpIn_rangeFunc_ownH rfl h1 (gf := 59) (lb := #[.pointer (some ⟨B, 0, none⟩)]) rfl trivial (enters_of Tryz.func59 (by kernel_rfl) rfl)
    (encs := fun x => #[iv x]) (Kp := KeepsWalks) hseq (fun h k => h.trans k) (fun W l o o' _ h _ hw => KeepsWalks.putObj _ h hw) (Below.refl _ _) (fun _ => rfl)
    (fun ss W => (∃ v, Boxed W w.heap.size 36 v ∧ W.ownsRow w.heap.size 3 1 v ss.length (i64s ss) ∧ True) ∧ Below w.heap.size w W) (fun _ _ _ => False)
    (((holdsRow_own w.heap.size w.heap.size _ _ 1 List.length i64s fun _ _ => True).from _).and fun s X Y row hs hg hr => hs.grown hg hs.size fun k e => by have := (hr k e).1; omega)
    (fun c s X Y row hs hg hr => hs) ⟨⟨_, hv0, ⟨rfl, .inl ⟨rfl, rfl⟩⟩, trivial⟩, hb0⟩
    (fun x a' _ => a' = apFI (.func (.func 59) #[] #[.pointer (some ⟨B, 0, none⟩)]) (iv x) (iv x) w.heap.size)
    (fun _ _ _ _ _ _ hs _ _ => hs) ?assign ?body ?done (fun D c pre W _ _ h => h.elim)
  case assign =>
    intro lp pre x W K hI hK
    gi_wp2_with (rw [Oper.semAt_eq _ _ _ (fun c h => by cases h)]; go_simp; try go_bits)
    exact hK _ _ ((KeepsOthers.refl W).from _) (KeepsWalks.refl W) hI rfl
  case body =>
    rintro lp pre x a' W _ _ ⟨⟨v, hv, hrow, _⟩, hbw⟩ rfl hlen
    have hc1 := hv.cell
    have hf1 := hv.frozen
    gi_wp2_with (first
      | (gi_at_builtin; refine wpListIn_append_own _ rfl _ _ 36 rfl w.heap.size 3 i0 (.int .i64 0) 1 8 Tryz.underlying36 hi hz0 hz1 hz2 rfl (by decide) _ _ _ rfl (hrow.alloc _) ⟨W.heap.size, 0, none⟩ 1 1 [iv x] rfl rfl ?_ ?_ ?_ ?_ ?_ ?_)
      | (rw [Oper.semAt_eq _ _ _ (fun c h => by cases h)]; go_simp; try go_bits))
    · intro j u hj
      rw [add_lit', cell_box (T := 3) (cs := [iv x]) (World.alloc_heap_new W _), Nat.zero_add]; exact hj
    · exact AllOne.cons rfl AllOne.nil
    · show pre.length + 1 ≤ 9223372036854775807; omega
    · omega
    · have := hbw.size; simp; omega
    · intro v' w3 hown' hg3 _
      obtain ⟨g', cap', rfl⟩ := ownsRow_succ hown'
      obtain ⟨hv3, hv4, hrow4, hko, hbel⟩ := Boxed.appended hv (by decide) hrow hbw.size (Nat.le_refl _) hown' hg3
      have hc3 := hv3.cell
      have hf3 := hv3.frozen
      gi_wp2_with (rw [Oper.semAt_eq _ _ _ (fun c h => by cases h)]; go_simp; try go_bits)
      refine ⟨hko.from _, hko.walks, ⟨_, hv4, ?_, trivial⟩, hbw.trans hbel⟩
      rw [List.length_append, show i64s (pre ++ [x]) = i64s pre ++ [iv x] from by unfold i64s; rw [List.map_append]; rfl]; exact hrow4
  case done =>
    rintro D xs W hD hS ⟨⟨v, hv, hrow, _⟩, hbw⟩ hK
    have hc1 := hv.cell
    gi_wp2
    refine ⟨by simp, .inl ⟨_, _, rfl, run_takeDeferred hK, ?_⟩⟩
    exact ⟨_, results_tmp rfl _ _ _, v, xs, rfl, hS, ownsRow_putObj hrow _ hK rfl, hbw.grown (grownBy_putObj' _ _ _) hbw.size (fun k e => by cases e; omega)⟩
end Go.Fw.K
namespace Go.Fw.K
open Go Go.RowKit Go.Proofs Go.Fw
theorem appI_con {B b c : Nat} {es : List MapEntry} (hE : EsI es c) (hN : es.length ≤ 1000000) : ConQ Tryz.prog 94 [.slice none 0 0, .func (.func 59) #[] #[.pointer (some ⟨B, 0, none⟩)]] []
    [vCells (some ⟨B, 0, none⟩) [.map (some b)], vMap b es c]
    (fun v rout φo => φo = [] ∧ ∃ (ad : Option Addr) (cap : Nat) (L : List Int), v = .slice ad L.length cap ∧ L.Perm (es.map kdI) ∧ rout = [osl ad L.length cap 3 1 (i64s L)]) := by
  intro w0 p0 p1 w s
  have h1 : (vCells (some ⟨B, 0, none⟩) [.map (some b)]).holds (Xof w0 [] false) w := s.views (false, _) (List.mem_append_left _ List.mem_cons_self)
  have h2 : (vMap b es c).holds (Xof w0 [] false) w := s.views (false, _) (List.mem_append_left _ (List.mem_cons_of_mem _ List.mem_cons_self))
  obtain ⟨a, ha, hc⟩ := CellsAt.some (show CellsAt (Xof w0 [] false) w (some ⟨B, 0, none⟩) [.map (some b)] from h1) (j := 0) rfl
  obtain rfl := Option.some.inj ha
  refine ((callsIn_wide (n := 3)).1 (appI_calls 3 (Nat.le_refl _) B b es c hE hN w hc h2.2)).mono ?_
  rintro e w' ⟨v, L, rfl, hp, hrow, hbel⟩
  have key : ∃ (ad : Option Addr) (cap : Nat), v = .slice ad L.length cap ∧ (osl ad L.length cap 3 1 (i64s L)).holds w' ∧ ∀ k, (osl ad L.length cap 3 1 (i64s L)).key = some k → w.heap.size ≤ k := by
    rcases id hrow with ⟨hx, ⟨hv, h0⟩ | ⟨g, cap, cur, hv, hb, rest⟩⟩
    · refine ⟨none, 0, by rw [hv, h0], ⟨hx, .inl ⟨by rw [h0], h0⟩⟩, fun k hk => by simp [osl, Value.ownBlock] at hk⟩
    · exact ⟨some ⟨g, 0, none⟩, cap, hv, ⟨hx, .inr ⟨g, cap, cur, rfl, Nat.zero_le _, rest⟩⟩, fun k hk => by simp [osl, Value.ownBlock] at hk; omega⟩
  obtain ⟨ad, cap, rfl, hh, hk⟩ := key
  refine ⟨_, _, [], rfl, ⟨rfl, ad, cap, L, rfl, hp, rfl⟩, ?_⟩
  exact (s.addRes (osl ad L.length cap 3 1 (i64s L)) hbel hh hk).weaken fun p hp => by
    simp only [List.map_nil, List.nil_append] at hp
    exact List.mem_append_right _ hp
end Go.Fw.K
