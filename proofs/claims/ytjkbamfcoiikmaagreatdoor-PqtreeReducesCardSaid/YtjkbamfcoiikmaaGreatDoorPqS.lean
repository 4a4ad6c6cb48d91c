/- The library's sort with a comparison that reads memory and leaves the world as it is: own slices of elements of one cell. -/
import Derived.Test.YtjkbamfcoiikmaaGreatDoorFwEE
import Derived.Shelf.SlSortCmp.NoneTotal
namespace Go.Fw
open Go Go.RowKit Go.Proofs Go.Sort Go.Shelf
def keyD {α : Type} (key : α → Int) (x y : α) : Int := key x - key y
theorem swo_key {α : Type} (key : α → Int) : SWO (ltOf (keyD key)) where
  irrefl x := by unfold ltOf keyD; simp
  trans x y z h1 h2 := by
    unfold ltOf keyD at *
    rw [decide_eq_true_eq] at *; omega
  ntrans x y z h1 h2 := by
    unfold ltOf keyD at *
    rw [decide_eq_false_iff_not] at *; omega
section
variable {P : Program} {ρ : Ren} {α : Type} [Inhabited α]
/-- What the comparison owes: in each world in which all but the row is as it was. -/
def CmpStill (P : Program) (g : Nat) (enc : α → Value) (key : α → Int) (r : Res) (w : World) : Prop :=
  ∀ W : World, w.heap.size ≤ W.heap.size → (∀ k, k < w.heap.size → r.key ≠ some k → W.heap[k]? = w.heap[k]?) → ∀ x y : α, Calls P g #[enc x, enc y] W fun e w' => e = .returned (.int .i64 (key x - key y)) ∧ ∃ q os, w' = grow (W.drewN q) os
theorem sort_still (L : SlLaysF.n6 P ρ) (enc : α → Value) (h1 : OneCell enc) (key : α → Int) (g : Nat) (eg : ∀ args w, (callFunc g args).run P w = .ok (.enter g args) w) {ad : Option Addr} {cap : Nat} {l : List α} {E : TypeId} (hl : l.length ≤ 1000000)
    {w0 : Ctx} {w : World} {φ : List (Bool × VP)} (s : St w0 w [osl ad l.length cap E 1 (l.map enc)] φ) (hC : CmpStill P g enc key (osl ad l.length cap E 1 (l.map enc)) w) :
    Calls P (ρ.f 6) #[.slice ad l.length cap, .func (.func g) #[] #[]] w fun e w' => e = .returned (.tuple #[]) ∧ ∃ d : List α, d.Perm l ∧ (∀ i j, i < j → j < d.length → key (d.getD i default) ≤ key (d.getD j default)) ∧ St w0 w' [osl ad l.length cap E 1 (d.map enc)] φ := by
  have hown := s.own _ List.mem_cons_self
  by_cases h0 : l = []
  · subst h0
    refine (AnyF.slices_SortFunc_none { L with } ad cap _ w).mono ?_
    rintro e w' ⟨rfl, rfl⟩
    exact ⟨rfl, [], .refl _, fun i j _ hj => by simp at hj, s⟩
  · obtain ⟨hxl, hown2⟩ := id hown
    rcases hown2 with ⟨hv, hn0⟩ | ⟨b, cap', cur, hv, hb, hgg, hnc, hcm, hsz, htake⟩
    · exact absurd (List.eq_nil_of_length_eq_zero hn0) h0
    · simp only [Value.slice.injEq] at hv
      obtain ⟨rfl, _, rfl⟩ := hv
      rw [Nat.mul_one] at htake hsz
      have hblk : b < w.heap.size := (Array.getElem?_eq_some_iff.1 hgg).1
      have hH : Holds enc w b 0 l.toArray := by
        intro j hj
        have hj' : j < l.length := by simpa using hj
        have hc : cur.toList[j]? = (l.map enc)[j]? := by
          rw [← htake, List.getElem?_take, if_pos hj']
        rw [Array.getElem?_toList, List.getElem?_map, List.getElem?_eq_getElem hj'] at hc
        have he : l.toArray[j]! = l[j] := by
          rw [getElem!_pos l.toArray j hj]; simp
        constructor
        · rw [Nat.zero_add, he]
          unfold World.cell?
          simp only [hgg]
          exact hc
        · unfold World.frozen?
          simp [hgg]
      have hkey : (osl (some ⟨b, 0, none⟩) l.length cap E 1 (l.map enc)).key = some b := rfl
      have hcmp : CmpLays1 P g #[] enc (keyD key) b 0 l.toArray.size w := fun m os dk _ x y => by
        refine (hC (sortWorld enc w b 0 m dk os) ?_ (fun k hk hne => ?_) x y).mono ?_
        · show w.heap.size ≤ ((putRow enc (Sort.ahead w m) b 0 dk).heap ++ os).size
          rw [Array.size_append, Go.Sort.size_putRow]; exact Nat.le_add_right _ _
        · have hkg : b ≠ k := fun e => hne (by rw [hkey, e])
          show ((putRow enc (Sort.ahead w m) b 0 dk).heap ++ os)[k]? = w.heap[k]?
          rw [Array.getElem?_append_left (by rw [Go.Sort.size_putRow]; exact hk)]
          unfold putRow mapBlock
          simp only [Array.getElem?_modify]
          rw [if_neg hkg]; rfl
        · exact fun _ _ h => h
      have hcon := Any.slices_SortFunc L enc h1 (keyD key) (swo_key key) g #[] b 0 cap l.toArray w eg hcmp hH hblk (by simp; omega)
      rw [List.size_toArray] at hcon
      refine hcon.mono ?_
      rintro e w' ⟨rfl, d', n, os, hp, hs, rfl⟩
      obtain ⟨d, rfl⟩ : ∃ d : List α, d.toArray = d' := ⟨d'.toList, by simp⟩
      have hdl : d.length = l.length := by simpa using hp.1
      have hperm : d.Perm l := by
        have := hp.2.2
        have e1 : (d.toArray.extract 0 l.length).toList = d := by rw [← hdl]; simp
        have e2 : (l.toArray.extract 0 l.length).toList = l := by simp
        rwa [e1, e2] at this
      refine ⟨rfl, d, hperm, fun i j hij hj => ?_, ?_⟩
      · have h2 := hs i j (Nat.zero_le _) hij (by rw [← hdl]; exact hj)
        unfold ltOf keyD at h2
        rw [decide_eq_false_iff_not] at h2
        have e : ∀ k, k < d.length → d.toArray[k]! = d.getD k default := fun k hk => by
          rw [getElem!_pos d.toArray k (by simpa using hk), List.getD_eq_getElem?_getD, List.getElem?_eq_getElem hk]; simp
        rw [e i (by omega), e j hj] at h2
        omega
      · have hsize : (putRow enc (Sort.ahead w n) b 0 d.toArray).heap.size = w.heap.size := by rw [Go.Sort.size_putRow]; rfl
        refine s.setRes (w' := sortWorld enc w b 0 n d.toArray os) 0 _ (osl (some ⟨b, 0, none⟩) l.length cap E 1 (d.map enc)) rfl ?_ rfl rfl rfl ?_ ?_ (fun k hk => .inl hk)
        · show w.heap.size ≤ ((putRow enc (Sort.ahead w n) b 0 d.toArray).heap ++ os).size
          rw [Array.size_append, hsize]; omega
        · intro k hk hne
          have hkg : b ≠ k := fun e => hne (by rw [hkey, e])
          show ((putRow enc (Sort.ahead w n) b 0 d.toArray).heap ++ os)[k]? = w.heap[k]?
          rw [Array.getElem?_append_left (by rw [hsize]; exact hk)]
          unfold putRow mapBlock
          simp only [Array.getElem?_modify]
          rw [if_neg hkg]; rfl
        · have hg' : (sortWorld enc w b 0 n d.toArray os).heap[b]? = some (.cells (putCells enc 0 d.toArray cur) E (0, 0)) := by
            show ((putRow enc (Sort.ahead w n) b 0 d.toArray).heap ++ os)[b]? = _
            rw [Array.getElem?_append_left (by rw [hsize]; exact hblk)]
            unfold putRow mapBlock
            simp only [Array.getElem?_modify]
            rw [if_pos trivial]
            show Option.map _ w.heap[b]? = _
            rw [hgg]; rfl
          refine ⟨by rw [List.length_map, hdl, Nat.mul_one], .inr ⟨b, cap, _, rfl, Nat.zero_le _, hg', hnc, hcm, by simp [putCells, hsz], ?_⟩⟩
          apply List.ext_getElem?
          intro t
          rw [Nat.mul_one]
          rcases Nat.lt_or_ge t l.length with ht | ht
          · rw [List.getElem?_take, if_pos ht, Array.getElem?_toList, List.getElem?_map]
            have h3 : t < cur.size := by rw [hsz]; omega
            simp only [putCells, Array.getElem?_mapIdx]
            rw [Array.getElem?_eq_getElem h3]
            have hdt : t < d.length := by omega
            simp [hdt]
          · rw [List.getElem?_eq_none (by rw [List.length_take]; omega), List.getElem?_eq_none (by rw [List.length_map]; omega)]
end
end Go.Fw
