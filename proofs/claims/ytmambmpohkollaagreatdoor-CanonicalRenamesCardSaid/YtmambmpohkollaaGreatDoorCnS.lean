/- Chapter 16: columns are sorted by the library's sort with the library's comparison of lists; the comparison leaves the world as it is. -/
import Derived.Test.YtmambmpohkollaaGreatDoorCnAB
import Derived.Test.YtmambmpohkollaaGreatDoorCnR
import Derived.Test.YtmambmpohkollaaGreatDoorFwEE
import Derived.Test.YtmambmpohkollaaGreatDoorSrtR
import Derived.Shelf.SlSortCmp.NoneTotal
import Derived.StillTailTactics
import Derived.WalkKit
import Derived.ProofKit
import Derived.Test.YtmambmpohkollaaGreatDoorProg
namespace Go.Fw.K
open Go Go.RowKit Go.Proofs Go.Fw Go.Sort Go.Shelf Go.Fw.Cn
set_option maxHeartbeats 1000000 in
theorem nanW (W : World) (x : Int) : Calls Tryz.prog 101 #[.int .i64 x] W fun e w' => e = .returned (.bool false) ∧ w' = W := by
  go_enter Tryz.func101, Tryz.ntmps101
  go_wp2
  go_ret
  exact ⟨by simp, rfl⟩
set_option maxHeartbeats 2000000 in
set_option maxRecDepth 20000 in
theorem cmpW (W : World) (x y : Int) : Calls Tryz.prog 79 #[.int .i64 x, .int .i64 y] W fun e w' => e = .returned (.int .i64 (if x < y then -1 else if y < x then 1 else 0)) ∧ w' = W := by
  have h1 := nanW W x
  have h2 := nanW W y
  go_enter Tryz.func79, Tryz.ntmps79
  by_cases hx : x < y
  · go_wp2_with (go_at_call 101; (first | refine h1.mono ?_ | refine h2.mono ?_); rintro e w' ⟨rfl, rfl⟩)
    go_ret
    exact ⟨rfl, rfl⟩
  by_cases hy : y < x
  · go_wp2_with (go_at_call 101; (first | refine h1.mono ?_ | refine h2.mono ?_); rintro e w' ⟨rfl, rfl⟩)
    go_ret
    exact ⟨rfl, rfl⟩
  · go_wp2_with (go_at_call 101; (first | refine h1.mono ?_ | refine h2.mono ?_); rintro e w' ⟨rfl, rfl⟩)
    go_ret
    exact ⟨rfl, rfl⟩
theorem dropI {l : List Int} {i : Nat} (h : i < l.length) : l.drop i = l.getD i 0 :: l.drop (i + 1) := by
  rw [List.drop_eq_getElem_cons h, List.getD_eq_getElem?_getD, List.getElem?_eq_getElem h]; rfl
set_option maxHeartbeats 4000000 in
set_option maxRecDepth 20000 in
theorem compareW {W : World} {b1 o1 b2 o2 c1 c2 : Nat} {L M : List Int} (hL : L.length ≤ 1000) (_hM : M.length ≤ 1000) (h1 : ∀ j, j < L.length → W.cell? ⟨b1, o1 + j, none⟩ = some (.int .i64 (L.getD j 0))) (h2 : ∀ j, j < M.length → W.cell? ⟨b2, o2 + j, none⟩ = some (.int .i64 (M.getD j 0))) :
    Calls Tryz.prog 55 #[.slice (some ⟨b1, o1, none⟩) L.length c1, .slice (some ⟨b2, o2, none⟩) M.length c2] W fun e w' => e = .returned (.int .i64 (cmpLL L M)) ∧ w' = W := by
  go_enter Tryz.func55, Tryz.ntmps55
  go_wp2
  go_loop [11] (fun i => ∃ k : Nat, k ≤ L.length ∧ k ≤ M.length ∧ i = .int .i64 k ∧ cmpLL L M = cmpLL (L.drop k) (M.drop k)) (fun i => 1000 - (Go.RowKit.intOf i).toNat)
  case atStart => exact ⟨0, Nat.zero_le _, Nat.zero_le _, rfl, rfl⟩
  case round =>
    obtain ⟨k, hk1, hk2, rfl, he⟩ := hrel
    by_cases hlt : k < L.length
    · have hltI : (k : Int) < (L.length : Int) := by omega
      have c1 := h1 k hlt
      by_cases hm : k < M.length
      · have hmI : ¬ ((k : Int) ≥ (M.length : Int)) := by omega
        have hmI2 : ¬ ((M.length : Int) ≤ (k : Int)) := by omega
        have c2 := h2 k hm
        have hc := cmpW W (L.getD k 0) (M.getD k 0)
        rw [dropI hlt, dropI hm, cmpLL] at he
        generalize L.getD k 0 = x at he c1 hc
        generalize M.getD k 0 = y at he c2 hc
        clear h1 h2
        by_cases hx : x < y
        · rw [if_pos hx] at he hc
          go_wp2_with (go_at_call 79; refine hc.mono ?_; rintro e w' ⟨rfl, rfl⟩)
          go_ret
          exact ⟨by first | (rw [he]; rfl) | (rw [dropI hlt]; rfl) | (rw [dropI hm]; rfl) | rfl, rfl⟩
        rw [if_neg hx] at he hc
        by_cases hy : y < x
        · rw [if_pos hy] at he hc
          go_wp2_with (go_at_call 79; refine hc.mono ?_; rintro e w' ⟨rfl, rfl⟩)
          go_ret
          exact ⟨by first | (rw [he]; rfl) | (rw [dropI hlt]; rfl) | (rw [dropI hm]; rfl) | rfl, rfl⟩
        · rw [if_neg hy] at he hc
          go_wp2_with (go_at_call 79; refine hc.mono ?_; rintro e w' ⟨rfl, rfl⟩)
          exact ⟨⟨k + 1, by omega, by omega, rfl, he⟩, by simp only [Go.RowKit.intOf]; omega⟩
      · have hmI : (k : Int) ≥ (M.length : Int) := by omega
        have hmI2 : (M.length : Int) ≤ (k : Int) := by omega
        rw [dropI hlt, List.drop_of_length_le (show M.length ≤ k by omega)] at he
        clear h1 h2
        go_wp2
        go_ret
        exact ⟨by first | (rw [he]; rfl) | (rw [dropI hlt]; rfl) | (rw [dropI hm]; rfl) | rfl, rfl⟩
    · have hltI : ¬ (k : Int) < (L.length : Int) := by omega
      obtain rfl : k = L.length := by omega
      rw [List.drop_length] at he
      clear h1 h2
      by_cases hm : L.length < M.length
      · have hmI : (L.length : Int) < (M.length : Int) := by omega
        rw [dropI hm] at he
        go_wp2
        go_ret
        exact ⟨by first | (rw [he]; rfl) | (rw [dropI hlt]; rfl) | (rw [dropI hm]; rfl) | rfl, rfl⟩
      · have hmI : ¬ (L.length : Int) < (M.length : Int) := by omega
        rw [List.drop_of_length_le (show M.length ≤ L.length by omega)] at he
        go_wp2
        go_ret
        exact ⟨by first | (rw [he]; rfl) | (rw [dropI hlt]; rfl) | (rw [dropI hm]; rfl) | rfl, rfl⟩
/-- The comparison as the sort sees it. -/
def cmpK {α : Type} (f : α → List Int) (x y : α) : Int := cmpLL (f x) (f y)
theorem swo_LL {α : Type} (f : α → List Int) : SWO (ltOf (cmpK f)) where
  irrefl x := by unfold ltOf cmpK; rw [cmpLL_self]; rfl
  trans x y z h1 h2 := by
    unfold ltOf cmpK at *
    rw [decide_eq_true_eq] at *
    have a := leL.trans (l := f x) (m := f y) (k := f z) (by unfold leL; omega) (by unfold leL; omega)
    rcases Int.lt_or_eq_of_le (show cmpLL (f x) (f z) ≤ 0 from a) with h | h
    · exact h
    · have e := cmpLL_eq h
      rw [e, cmpLL_neg] at h1
      omega
  ntrans x y z h1 h2 := by
    unfold ltOf cmpK at *
    rw [decide_eq_false_iff_not] at *
    have a := leL.trans (l := f z) (m := f y) (k := f x) (by unfold leL; rw [cmpLL_neg]; omega) (by unfold leL; rw [cmpLL_neg]; omega)
    unfold leL at a
    rw [cmpLL_neg] at a
    omega
section
variable {P : Program} {ρ : Ren} {α : Type} [Inhabited α]
/-- What the comparison owes: in each world in which all but the row is as it was. -/
def CmpStillC (P : Program) (g : Nat) (enc : α → Value) (cf : α → α → Int) (r : Res) (w : World) : Prop :=
  ∀ W : World, w.heap.size ≤ W.heap.size → (∀ k, k < w.heap.size → r.key ≠ some k → W.heap[k]? = w.heap[k]?) → ∀ x y : α, Calls P g #[enc x, enc y] W fun e w' => e = .returned (.int .i64 (cf x y)) ∧ ∃ q os, w' = grow (W.drewN q) os
theorem sort_stillC (L : SlLaysF.n6 P ρ) (enc : α → Value) (h1 : OneCell enc) (cf : α → α → Int) (hS : SWO (ltOf cf)) (g : Nat) (eg : ∀ args w, (callFunc g args).run P w = .ok (.enter g args) w) {ad : Option Addr} {cap : Nat} {l : List α} {E : TypeId} (hl : l.length ≤ 1000000)
    {w0 : Ctx} {w : World} {φ : List (Bool × VP)} (s : St w0 w [osl ad l.length cap E 1 (l.map enc)] φ) (hC : CmpStillC P g enc cf (osl ad l.length cap E 1 (l.map enc)) w) :
    Calls P (ρ.f 6) #[.slice ad l.length cap, .func (.func g) #[] #[]] w fun e w' => e = .returned (.tuple #[]) ∧ ∃ d : List α, d.Perm l ∧ (∀ i j, i < j → j < d.length → ltOf cf (d.getD j default) (d.getD i default) = false) ∧ St w0 w' [osl ad l.length cap E 1 (d.map enc)] φ := by
  have hown := s.own _ List.mem_cons_self
  by_cases h0 : l = []
  · subst h0
    refine (AnyF.slices_SortFunc_none { L with } ad cap _ w).mono ?_
    rintro e w' ⟨rfl, rfl⟩
    exact ⟨rfl, [], .refl _, fun i j _ hj => by simp at hj, s⟩
  · obtain ⟨hxl, hown2⟩ := id hown
    rcases hown2 with ⟨hv, hn0⟩ | ⟨b, cap', cur, hv, hb, hgg, hnc, hcm, hsz, htake⟩
    · exact absurd (List.eq_nil_of_length_eq_zero hn0) h0
    · simp only [Value.slice.injEq] at hv
      obtain ⟨rfl, _, rfl⟩ := hv
      rw [Nat.mul_one] at htake hsz
      have hblk : b < w.heap.size := (Array.getElem?_eq_some_iff.1 hgg).1
      have hH : Holds enc w b 0 l.toArray := by
        intro j hj
        have hj' : j < l.length := by simpa using hj
        have hc : cur.toList[j]? = (l.map enc)[j]? := by
          rw [← htake, List.getElem?_take, if_pos hj']
        rw [Array.getElem?_toList, List.getElem?_map, List.getElem?_eq_getElem hj'] at hc
        have he : l.toArray[j]! = l[j] := by
          rw [getElem!_pos l.toArray j hj]; simp
        constructor
        · rw [Nat.zero_add, he]
          unfold World.cell?
          simp only [hgg]
          exact hc
        · unfold World.frozen?
          simp [hgg]
      have hkey : (osl (some ⟨b, 0, none⟩) l.length cap E 1 (l.map enc)).key = some b := rfl
      have hcmp : CmpLays1 P g #[] enc (cf) b 0 l.toArray.size w := fun m os dk _ x y => by
        refine (hC (sortWorld enc w b 0 m dk os) ?_ (fun k hk hne => ?_) x y).mono ?_
        · show w.heap.size ≤ ((putRow enc (Sort.ahead w m) b 0 dk).heap ++ os).size
          rw [Array.size_append, Go.Sort.size_putRow]; exact Nat.le_add_right _ _
        · have hkg : b ≠ k := fun e => hne (by rw [hkey, e])
          show ((putRow enc (Sort.ahead w m) b 0 dk).heap ++ os)[k]? = w.heap[k]?
          rw [Array.getElem?_append_left (by rw [Go.Sort.size_putRow]; exact hk)]
          unfold putRow mapBlock
          simp only [Array.getElem?_modify]
          rw [if_neg hkg]; rfl
        · exact fun _ _ h => h
      have hcon := Any.slices_SortFunc L enc h1 (cf) hS g #[] b 0 cap l.toArray w eg hcmp hH hblk (by simp; omega)
      rw [List.size_toArray] at hcon
      refine hcon.mono ?_
      rintro e w' ⟨rfl, d', n, os, hp, hs, rfl⟩
      obtain ⟨d, rfl⟩ : ∃ d : List α, d.toArray = d' := ⟨d'.toList, by simp⟩
      have hdl : d.length = l.length := by simpa using hp.1
      have hperm : d.Perm l := by
        have := hp.2.2
        have e1 : (d.toArray.extract 0 l.length).toList = d := by rw [← hdl]; simp
        have e2 : (l.toArray.extract 0 l.length).toList = l := by simp
        rwa [e1, e2] at this
      refine ⟨rfl, d, hperm, fun i j hij hj => ?_, ?_⟩
      · have h2 := hs i j (Nat.zero_le _) hij (by rw [← hdl]; exact hj)
        have e : ∀ k, k < d.length → d.toArray[k]! = d.getD k default := fun k hk => by
          rw [getElem!_pos d.toArray k (by simpa using hk), List.getD_eq_getElem?_getD, List.getElem?_eq_getElem hk]; simp
        rwa [e i (by omega), e j hj] at h2
      · have hsize : (putRow enc (Sort.ahead w n) b 0 d.toArray).heap.size = w.heap.size := by rw [Go.Sort.size_putRow]; rfl
        refine s.setRes (w' := sortWorld enc w b 0 n d.toArray os) 0 _ (osl (some ⟨b, 0, none⟩) l.length cap E 1 (d.map enc)) rfl ?_ rfl rfl rfl ?_ ?_ (fun k hk => .inl hk)
        · show w.heap.size ≤ ((putRow enc (Sort.ahead w n) b 0 d.toArray).heap ++ os).size
          rw [Array.size_append, hsize]; omega
        · intro k hk hne
          have hkg : b ≠ k := fun e => hne (by rw [hkey, e])
          show ((putRow enc (Sort.ahead w n) b 0 d.toArray).heap ++ os)[k]? = w.heap[k]?
          rw [Array.getElem?_append_left (by rw [hsize]; exact hk)]
          unfold putRow mapBlock
          simp only [Array.getElem?_modify]
          rw [if_neg hkg]; rfl
        · have hg' : (sortWorld enc w b 0 n d.toArray os).heap[b]? = some (.cells (putCells enc 0 d.toArray cur) E (0, 0)) := by
            show ((putRow enc (Sort.ahead w n) b 0 d.toArray).heap ++ os)[b]? = _
            rw [Array.getElem?_append_left (by rw [hsize]; exact hblk)]
            unfold putRow mapBlock
            simp only [Array.getElem?_modify]
            rw [if_pos trivial]
            show Option.map _ w.heap[b]? = _
            rw [hgg]; rfl
          refine ⟨by rw [List.length_map, hdl, Nat.mul_one], .inr ⟨b, cap, _, rfl, Nat.zero_le _, hg', hnc, hcm, by simp [putCells, hsz], ?_⟩⟩
          apply List.ext_getElem?
          intro t
          rw [Nat.mul_one]
          rcases Nat.lt_or_ge t l.length with ht | ht
          · rw [List.getElem?_take, if_pos ht, Array.getElem?_toList, List.getElem?_map]
            have h3 : t < cur.size := by rw [hsz]; omega
            simp only [putCells, Array.getElem?_mapIdx]
            rw [Array.getElem?_eq_getElem h3]
            have hdt : t < d.length := by omega
            simp [hdt]
          · rw [List.getElem?_eq_none (by rw [List.length_take]; omega), List.getElem?_eq_none (by rw [List.length_map]; omega)]
end
theorem sortC_con {ad : Option Addr} {cap : Nat} {ps : List Rw} (hl : ps.length ≤ 1000) (hne : ∀ r ∈ ps, r.L ≠ [] ∧ r.L.length ≤ 1000) :
    ConQ Tryz.prog 54 [.slice ad ps.length cap, .func (.func 55) #[] #[]] [osl ad ps.length cap 22 1 (rws ps)] [vRws ps]
    (fun v rout φo => v = .tuple #[] ∧ φo = [] ∧ ∃ d : List Rw, d.Perm ps ∧ Rls d = srtL (Rls ps) ∧ rout = [osl ad ps.length cap 22 1 (rws d)]) := by
  intro w0 p0 p1 w s
  by_cases h0 : ps = []
  · subst h0
    refine (AnyF.slices_SortFunc_none { Tryz.laysSortR with } ad cap _ w).mono ?_
    rintro e w' ⟨rfl, rfl⟩
    exact ⟨_, _, [], rfl, ⟨rfl, rfl, [], .refl _, rfl, rfl⟩, s.weaken fun p hp => by
      rcases List.mem_append.1 hp with hp | hp
      · cases hp
      · exact List.mem_append_right _ hp⟩
  have hL : 0 < ps.length := List.length_pos_iff.2 h0
  haveI : Inhabited {t // t ∈ ps} := ⟨⟨ps.getD 0 dR, rw_mem hL⟩⟩
  have hview : ∀ k ∈ ps, CellsAt (Xof w0 [osl ad ps.length cap 22 1 (rws ps)] false) w k.ad (i64s k.L) := s.views (false, vRws ps) List.mem_cons_self
  have he : ps.attach.map (fun x => x.1.v) = rws ps := List.attach_map_val (f := Rw.v)
  have eg : ∀ args w, (callFunc 55 args).run Tryz.prog w = .ok (.enter 55 args) w := enters_of Tryz.func55 (by kernel_rfl) rfl
  have s2 : St w0 w [osl ad ps.attach.length cap 22 1 (ps.attach.map fun x => x.1.v)] ([vRws ps].map (fun p => (false, p)) ++ [(false, p0), (true, p1)]) := by
    rw [he, List.length_attach]; exact s
  have hC : CmpStillC Tryz.prog 55 (fun x : {t // t ∈ ps} => x.1.v) (cmpK fun x => x.1.L) (osl ad ps.attach.length cap 22 1 (ps.attach.map fun x => x.1.v)) w := by
    intro W _ hW x y
    have hold : ∀ k ∈ ps, CellsAt (Xof w0 [osl ad ps.length cap 22 1 (rws ps)] false) W k.ad (i64s k.L) := fun k hk => (hview k hk).mono (fun j hj hX => hW j hj fun hkey => hX (.inl ⟨_, List.mem_cons_self, by rw [List.length_attach] at hkey; exact hkey⟩)) (fun _ _ h => h)
    have open_ : ∀ k ∈ ps, ∃ (b o : Nat), k.v = .slice (some ⟨b, o, none⟩) k.L.length k.cap ∧ ∀ j, j < k.L.length → W.cell? ⟨b, o + j, none⟩ = some (.int .i64 (k.L.getD j 0)) := fun k hk => by
      obtain ⟨kad, kcap, kL⟩ := k
      have hpos : 0 < kL.length := List.length_pos_iff.2 (hne _ hk).1
      obtain ⟨b, o, e, _, _⟩ := hold _ hk 0 _ (i64s_get hpos)
      have e' : kad = some ⟨b, o, none⟩ := e
      subst e'
      refine ⟨b, o, rfl, fun j hj => ?_⟩
      obtain ⟨b', o', e2, _, hcell⟩ := hold _ hk j _ (i64s_get hj)
      cases e2
      exact hcell
    obtain ⟨b1, o1, e1, g1⟩ := open_ x.1 x.2
    obtain ⟨b2, o2, e2, g2⟩ := open_ y.1 y.2
    show Calls Tryz.prog 55 #[x.1.v, y.1.v] W _
    rw [e1, e2]
    exact (compareW (hne _ x.2).2 (hne _ y.2).2 g1 g2).mono fun _ _ ⟨h1, h2⟩ => ⟨h1, 0, #[], by rw [grow_empty]; exact h2⟩
  have := sort_stillC Tryz.laysSortR (fun x : {t // t ∈ ps} => x.1.v) (fun _ => rfl) (cmpK fun x => x.1.L) (swo_LL _) _ eg (l := ps.attach) (by rw [List.length_attach]; omega) s2 hC
  have hc2 : Calls Tryz.prog 54 #[.slice ad ps.attach.length cap, .func (.func 55) #[] #[]] w _ := this
  rw [List.length_attach] at hc2
  refine hc2.mono ?_
  rintro e w' ⟨rfl, d, hp, hs, st⟩
  refine ⟨_, [osl ad ps.length cap 22 1 (rws (d.map (·.1)))], [], rfl, ⟨rfl, rfl, d.map (·.1), ?_, ?_, rfl⟩, ?_⟩
  · have := hp.map (·.1)
    rwa [List.attach_map_subtype_val] at this
  · have hp2 : (Rls (d.map (·.1))).Perm (Rls ps) := by
      have := (hp.map (·.1)).map Rw.L
      rwa [List.attach_map_subtype_val] at this
    refine (srtL_eq hp2.symm ?_).symm
    rw [List.pairwise_iff_getElem]
    intro a b ha hb hab
    have ha' : a < d.length := by simpa using ha
    have hb' : b < d.length := by simpa using hb
    have h1 := hs a b hab hb'
    have e : ∀ k (hk : k < d.length), (Rls (d.map (·.1)))[k]'(by simpa using hk) = (d.getD k default).1.L := fun k hk => by
      rw [List.getElem_map, List.getElem_map, List.getD_eq_getElem?_getD, List.getElem?_eq_getElem hk]; rfl
    rw [e a ha', e b hb']
    unfold ltOf cmpK at h1
    rw [decide_eq_false_iff_not] at h1
    have h2 : ¬ cmpLL (d.getD b default).1.L (d.getD a default).1.L < 0 := h1
    unfold leL
    rw [cmpLL_neg]
    omega
  · rw [show rws (d.map (·.1)) = d.map (fun x => x.1.v) from List.map_map]
    exact st.weaken fun p hp => by
      rcases List.mem_append.1 hp with hp | hp
      · cases hp
      · exact List.mem_append_right _ hp
/-- The comparison of two lists that are not empty. -/
theorem compareL_con {ad1 ad2 : Option Addr} {c1 c2 : Nat} {L M : List Int} (hL : 0 < L.length ∧ L.length ≤ 1000) (hM : 0 < M.length ∧ M.length ≤ 1000) : ConF Tryz.prog 55 [.slice ad1 L.length c1, .slice ad2 M.length c2] [vCells ad1 (i64s L), vCells ad2 (i64s M)]
    (fun v φo => v = .int .i64 (cmpLL L M) ∧ φo = []) := by
  intro w hv
  have open_ : ∀ (ad : Option Addr) (N : List Int), 0 < N.length → CellsAt (fun _ => False) w ad (i64s N) → ∃ b o, ad = some ⟨b, o, none⟩ ∧ ∀ j, j < N.length → w.cell? ⟨b, o + j, none⟩ = some (.int .i64 (N.getD j 0)) := fun ad N h0 h => by
    obtain ⟨b, o, e, _, _⟩ := h 0 _ (i64s_get h0)
    refine ⟨b, o, e, fun j hj => ?_⟩
    obtain ⟨b', o', e2, _, hcell⟩ := h j _ (i64s_get hj)
    rw [e] at e2; cases e2
    exact hcell
  obtain ⟨b1, o1, rfl, g1⟩ := open_ ad1 L hL.1 (hv _ List.mem_cons_self)
  obtain ⟨b2, o2, rfl, g2⟩ := open_ ad2 M hM.1 (hv _ (List.mem_cons_of_mem _ List.mem_cons_self))
  refine (compareW hL.2 hM.2 g1 g2).mono ?_
  rintro e w' ⟨rfl, rfl⟩
  exact ⟨_, [], rfl, ⟨rfl, rfl⟩, Below.refl _ _, fun p hp => by cases hp⟩
end Go.Fw.K
