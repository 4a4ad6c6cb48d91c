/- Chapter 16: the library's sort of integers, which is handed an own slice. -/
import Derived.Test.YtmambmpohkollaaGreatDoorCnR
import Derived.Test.YtmambmpohkollaaGreatDoorShI
import Derived.Test.YtmambmpohkollaaGreatDoorProg
namespace Go.Fw.Cn
open Go Go.RowKit Go.Fw
def srtI (l : List Int) : List Int := l.mergeSort fun x y => decide (x ≤ y)
theorem srtI_len (l : List Int) : (srtI l).length = l.length := List.length_mergeSort l
end Go.Fw.Cn
namespace Go.Fw.K
open Go Go.RowKit Go.Proofs Go.Fw Go.Sort Go.Shelf Go.Fw.Cn
theorem sortI_con {ad : Option Addr} {cap : Nat} {l : List Int} (hl : l.length ≤ 1000000) : ConO Tryz.prog 74 [.slice ad l.length cap] [osl ad l.length cap 3 1 (i64s l)] []
    (fun v rout φo => v = .tuple #[] ∧ φo = [] ∧ rout = [osl ad l.length cap 3 1 (i64s (srtI l))]) := by
  intro w0 p0 p1 w s
  have hown := s.own _ List.mem_cons_self
  by_cases h0 : l = []
  · subst h0
    refine (Tryz.slices_Sort_int_none ad cap w).mono ?_
    rintro e w' ⟨rfl, rfl⟩
    exact ⟨_, _, [], rfl, ⟨rfl, rfl, rfl⟩, by rw [show srtI [] = [] from List.mergeSort_nil]; exact s⟩
  · obtain ⟨hxl, hown2⟩ := id hown
    rcases hown2 with ⟨hv, hn0⟩ | ⟨g, cap', cur, hv, hb, hgg, hnc, hcm, hsz, htake⟩
    · exact absurd (List.eq_nil_of_length_eq_zero hn0) h0
    · simp only [Value.slice.injEq] at hv
      obtain ⟨rfl, _, rfl⟩ := hv
      rw [Nat.mul_one] at htake hsz
      have hblk : g < w.heap.size := (Array.getElem?_eq_some_iff.1 hgg).1
      have hH : Holds (Value.int .i64) w g 0 l.toArray := by
        intro j hj
        have hj' : j < l.length := by simpa using hj
        have hc : cur.toList[j]? = (i64s l)[j]? := by
          rw [← htake, List.getElem?_take, if_pos hj']
        rw [Array.getElem?_toList, i64s_get hj'] at hc
        have he : l.toArray[j]! = l.getD j 0 := by
          rw [getElem!_pos l.toArray j hj, List.getD_eq_getElem?_getD, List.getElem?_eq_getElem hj']; simp
        constructor
        · rw [Nat.zero_add, he]
          unfold World.cell?
          simp only [hgg]
          exact hc
        · unfold World.frozen?
          simp [hgg]
      have hcon := Tryz.slices_Sort_int g 0 cap l w hH hblk (by omega)
      refine hcon.mono ?_
      rintro e w' ⟨rfl, n, os, rfl⟩
      have hdl : (srtI l).length = l.length := srtI_len l
      show PostO w0 p0 p1 _ _ (grow (putRow (Value.int .i64) (Sort.ahead w n) g 0 (srtI l).toArray) os)
      generalize hd : srtI l = d at hdl
      refine ⟨_, [osl (some ⟨g, 0, none⟩) l.length cap 3 1 (i64s d)], [], rfl, ⟨rfl, rfl, rfl⟩, ?_⟩
      have hsize : (putRow (Value.int .i64) (Sort.ahead w n) g 0 d.toArray).heap.size = w.heap.size := by rw [Go.Sort.size_putRow]; rfl
      refine s.setRes (w' := grow (putRow (Value.int .i64) (Sort.ahead w n) g 0 d.toArray) os) 0 _ (osl (some ⟨g, 0, none⟩) l.length cap 3 1 (i64s d)) rfl ?_ rfl rfl rfl ?_ ?_ (fun k hk => .inl hk)
      · show w.heap.size ≤ ((putRow (Value.int .i64) (Sort.ahead w n) g 0 d.toArray).heap ++ os).size
        rw [Array.size_append, hsize]; omega
      · intro k hk hne
        have hkg : g ≠ k := fun e => hne (by simp [osl, Value.ownBlock, e])
        show ((putRow (Value.int .i64) (Sort.ahead w n) g 0 d.toArray).heap ++ os)[k]? = w.heap[k]?
        rw [Array.getElem?_append_left (by rw [hsize]; exact hk)]
        unfold putRow mapBlock
        simp only [Array.getElem?_modify]
        rw [if_neg hkg]; rfl
      · have hg' : (grow (putRow (Value.int .i64) (Sort.ahead w n) g 0 d.toArray) os).heap[g]? = some (.cells (putCells (Value.int .i64) 0 d.toArray cur) 3 (0, 0)) := by
          show ((putRow (Value.int .i64) (Sort.ahead w n) g 0 d.toArray).heap ++ os)[g]? = _
          rw [Array.getElem?_append_left (by rw [hsize]; exact hblk)]
          unfold putRow mapBlock
          simp only [Array.getElem?_modify]
          rw [if_pos trivial]
          show Option.map _ w.heap[g]? = _
          rw [hgg]; rfl
        refine ⟨by rw [i64s_length, hdl, Nat.mul_one], .inr ⟨g, cap, _, rfl, Nat.zero_le _, hg', hnc, hcm, by simp [putCells, hsz], ?_⟩⟩
        apply List.ext_getElem?
        intro t
        rw [Nat.mul_one]
        rcases Nat.lt_or_ge t l.length with ht | ht
        · rw [List.getElem?_take, if_pos ht, Array.getElem?_toList, i64s_get (by omega)]
          have h1 : t < cur.size := by rw [hsz]; omega
          simp only [putCells, Array.getElem?_mapIdx]
          rw [Array.getElem?_eq_getElem h1]
          have hdt : t < d.length := by omega
          simp [hdt, List.getD_eq_getElem?_getD]
        · rw [List.getElem?_eq_none (by rw [List.length_take]; omega), List.getElem?_eq_none (by rw [i64s_length]; omega)]
end Go.Fw.K
