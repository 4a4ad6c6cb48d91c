/- A region that draws its order, in which one operation of the prefix may come after the first store. -/
import Derived.Test.YtgfldmhpindbpaaDoorFwK
namespace Go.Fw
open Go Go.RowKit

section
variable {P : Program} {Q : Exit → Act → World → Prop} {w0 : Ctx} {σ : List Res} {φ : List (Bool × VP)} {fr : Fr} {ops : Array Oper} {rest : List Oper}
def lateOk (l : List Oper) (n e : Nat) (ds : List (Nat × List Nat)) : Bool :=
  ds.length == n && decide (n < l.length) && decide (e < n) &&
  ((List.range l.length).all fun i => (directs l i).all fun j => j < i) &&
  ((List.range n).all fun i => match ds[i]? with | some (d, ps) => stepOk l i d ps | none => false) &&
  ((ds.map (·.1)).Nodup : Bool) &&
  ((List.range n).all fun i => i == e || (reach l n n).contains i) &&
  ((List.range l.length).all fun t => t ≤ n || (List.range t).all fun i => (reach l t t).contains i)
structure LateOk (l : List Oper) (np e : Nat) (ds : List (Nat × List Nat)) : Prop where
  len : ds.length = np
  lt : np < l.length
  elt : e < np
  early : ∀ i, i < l.length → ∀ j ∈ directs l i, j < i
  step : ∀ i d ps, ds[i]? = some (d, ps) → ∃ o, l[i]? = some o ∧ o.dst = some d ∧ (∀ T, o.op = .alloc T → o.guard = none) ∧ ∀ j ∈ ps, j ∈ directs l i
  nodup : (ds.map (·.1)).Nodup
  late : ∀ i, i < np → i ≠ e → i ∈ reach l np np
  tail : ∀ t, np < t → t < l.length → ∀ i, i < t → i ∈ reach l t t
theorem lateOk_spec {l : List Oper} {np e : Nat} {ds : List (Nat × List Nat)} (h : lateOk l np e ds = true) : LateOk l np e ds := by
  unfold lateOk at h
  simp only [Bool.and_eq_true, decide_eq_true_eq, beq_iff_eq, List.all_eq_true, List.mem_range, Bool.or_eq_true] at h
  obtain ⟨⟨⟨⟨⟨⟨⟨h1, h2⟩, he⟩, h3⟩, h4⟩, h5⟩, h7⟩, h6⟩ := h
  refine ⟨h1, h2, he, h3, ?_, h5, ?_, ?_⟩
  · intro i d ps hi
    have hlt : i < np := by rw [← h1]; exact (List.getElem?_eq_some_iff.1 hi).1
    have := h4 i hlt
    rw [hi] at this
    unfold stepOk at this
    simp only at this
    split at this
    · rename_i o ho
      simp only [Bool.and_eq_true, beq_iff_eq, List.all_eq_true] at this
      refine ⟨o, ho, this.1.1, fun T hT => ?_, fun j hj => ?_⟩
      · have h := this.1.2
        simpa [isAlloc, hT] using h
      have := this.2 j hj
      simpa using this
    · cases this
  · intro i hi hne
    rcases h7 i hi with h | h
    · exact absurd h hne
    · simpa using h
  · intro t ht htl i hi
    rcases h6 t htl with h | h
    · omega
    · have := h i hi
      simpa using this
theorem Pre.step0 {l : List Oper} {np n e : Nat} {b : List Value} {ss : List Stp} {listed : Array Bool} {vals : Nat → Value} {bs : Nat → Nat} {a : Act} {w : World} (hok : LateOk l np e (ss.map fun s => (s.d, s.preds)))
    (hob : Obls P l w0 σ φ n b ss ss l) (hp : Pre w0 σ φ n b ss listed vals bs a w) {i : Nat} {s : Stp} {o : Oper} (hs : ss[i]? = some s) (ho : l[i]? = some o) (hsz : i < listed.size) (hun : listed.getD i true = false) (hpr : ∀ j ∈ directs l i, listed.getD j false = true) :
    ∀ {Q : Exit → Act → World → Prop}, if Region.wanted o (yielded l.toArray a.tmps) then o.wp P a w (fun a' w' => ∃ vals' bs', Pre w0 σ φ n b ss (listed.setIfInBounds i true) vals' bs' a' w') Q ∨ (o.asks P a w ∧ LetsOut Q)
      else (∃ vals' bs', Pre w0 σ φ n b ss (listed.setIfInBounds i true) vals' bs' (a.put o.dst undef) w) := by
  obtain ⟨o', ho', hdst, hgd, hps⟩ := hok.step i s.d s.preds (by rw [List.getElem?_map, hs]; rfl)
  obtain rfl : o = o' := by rw [ho] at ho'; simpa using ho'
  have hob' := hob.get i s o hs ho
  have hunf : listed.getD i false = false := by simpa [Array.getD, hsz] using hun
  have hdi : (ss.map (·.d))[i]? = some s.d := by rw [List.getElem?_map, hs]; rfl
  have hnd : (ss.map (·.d)).Nodup := by have := hok.nodup; rwa [List.map_map] at this
  intro Q
  have hfr := hp.fr
  subst hfr
  unfold Obl at hob'
  cases hal : s.al with
  | some p =>
    obtain ⟨T, z⟩ := p
    rw [hal] at hob'
    rw [if_pos (by simp [Region.wanted, hgd T hob'.1])]
    refine .inl (alloc_wp hob'.1 hdst hob'.2 ⟨setV vals i (.pointer (some ⟨w.heap.size, 0, none⟩)), setN bs i w.heap.size, ?_⟩)
    have hst := (hp.st.addBox T z)
    have hperm : (σ ++ exOf (listed.setIfInBounds i true) (setN bs i w.heap.size) ss 0).Perm ((σ ++ exOf listed bs ss 0) ++ [box w.heap.size T z]) := by
      rw [List.append_assoc]
      refine List.Perm.append_left _ ?_
      have := exOf_new (listed := listed) (bs := bs) (x := w.heap.size) ss 0 i s hs hal (by simpa using hsz) (by simpa using hunf)
      simpa using this
    refine ⟨act_pends_put n b _ hnd vals i s.d hdi _, hst.perm hperm, ?_, ?_⟩
    · intro j s' hj hne hl
      by_cases h : j = i
      · subst h; simp [setV, setN]
      · rw [getD_set_other _ _ _ (fun e => h e.symm)] at hl
        have := hp.made j s' hj hne hl
        simp [setV, setN, h, this]
    · intro j s' hj hn hl
      have h : j ≠ i := by rintro rfl; rw [hs] at hj; simp at hj; subst hj; rw [hal] at hn; cases hn
      rw [getD_set_other _ _ _ (fun e => h e.symm)] at hl
      have hf := hp.fact j s' hj hn hl
      rw [show setV vals i _ j = vals j from by simp [setV, h]]
      refine VP.mono _ _ _ w _ hf (by simp) (fun k hk _ => Below.heap_alloc _ _ _ hk) ?_
      intro k hk hX
      rcases hX with ⟨r, hr, hrk⟩ | hX
      · rcases List.mem_append.1 (hperm.mem_iff.1 hr) with hr | hr
        · exact .inl ⟨r, hr, hrk⟩
        · obtain rfl := List.mem_singleton.1 hr
          simp [box] at hrk
          omega
      · exact .inr hX
  | none =>
    rw [hal] at hob'
    have hst : St w0 w (σ ++ exOf listed bs ss 0) (factsOf ss vals s.preds ++ (φ ++ listedFacts listed vals ss 0)) := by
      refine ⟨hp.st.base, hp.st.own, hp.st.fresh, hp.st.dist, fun p hpm => ?_⟩
      rcases List.mem_append.1 hpm with hpm | hpm
      · obtain ⟨j, hj, rfl⟩ := mem_factsOf hpm
        have hjl := hpr j (hps j hj)
        have hji : j < i := hok.early i (List.getElem?_eq_some_iff.1 ho).1 j (hps j hj)
        have hjs : j < ss.length := by have := (List.getElem?_eq_some_iff.1 hs).1; omega
        have hg : ss[j]? = some ss[j] := List.getElem?_eq_getElem hjs
        rw [getF_get hg]
        cases hal' : (ss[j]).al with
        | none => exact hp.fact j _ hg hal' hjl
        | some q => exact trivial
      · rcases List.mem_append.1 hpm with hpm | hpm
        · exact hp.st.views p hpm
        · obtain ⟨j, s', h1, h2, h3, rfl⟩ := mem_listedFacts ss 0 hpm
          simp only [Nat.zero_add] at h3 ⊢
          exact hp.fact j s' h1 h2 h3
    refine wpList_one (fun c a w h => h) (fun h => by obtain ⟨a, w, h⟩ := h; exact h) (hob' vals (exOf listed bs ss 0) (listedFacts listed vals ss 0) w hst) ?_
    rintro a' w' ⟨v, φ'', rfl, hst', hF, hsub⟩
    refine ⟨setV vals i v, bs, ?_⟩
    have hex : exOf (listed.setIfInBounds i true) bs ss 0 = exOf listed bs ss 0 := exOf_congr ss 0 fun j s' hj hne => by
      have h : j ≠ i := by rintro rfl; rw [hs] at hj; simp at hj; subst hj; exact hne hal
      rw [Nat.zero_add, getD_set_other _ _ _ (fun e => h e.symm)]
      exact ⟨rfl, fun _ => rfl⟩
    refine ⟨act_pends_put n b _ hnd vals i s.d hdi v, ?_, ?_, ?_⟩
    · rw [hex]
      exact hst'.weaken fun p hp' => hsub p (List.mem_append_right _ (List.mem_append_left _ hp'))
    · intro j s' hj hne hl
      have h : j ≠ i := by rintro rfl; rw [hs] at hj; simp at hj; subst hj; exact hne hal
      rw [getD_set_other _ _ _ (fun e => h e.symm)] at hl
      rw [show setV vals i v j = vals j from by simp [setV, h]]
      exact hp.made j s' hj hne hl
    · intro j s' hj hn hl
      rw [hex]
      by_cases h : j = i
      · subst h
        rw [hs] at hj
        simp at hj
        subst hj
        simpa [setV] using hF
      · rw [getD_set_other _ _ _ (fun e => h e.symm)] at hl
        rw [show setV vals i v j = vals j from by simp [setV, h]]
        have hm := listedFacts_mem (listed := listed) (vals := vals) ss 0 j hj hn (by simpa using hl)
        simp only [Nat.zero_add] at hm
        exact hst'.views _ (hsub _ (List.mem_append_right _ (List.mem_append_right _ hm)))


theorem Pre.step0' {l : List Oper} {n : Nat} {b : List Value} {ss : List Stp} {listed : Array Bool} {vals : Nat → Value} {bs : Nat → Nat} {a : Act} {w : World} (hokS : ∀ i d ps, (ss.map fun s => (s.d, s.preds))[i]? = some (d, ps) → ∃ o, l[i]? = some o ∧ o.dst = some d ∧ (∀ T, o.op = .alloc T → o.guard = none) ∧ ∀ j ∈ ps, j ∈ directs l i) (hokN : ((ss.map fun s => (s.d, s.preds)).map (·.1)).Nodup) (hokE : ∀ i, i < l.length → ∀ j ∈ directs l i, j < i)
    (hob : Obls P l w0 σ φ n b ss ss l) (hp : Pre w0 σ φ n b ss listed vals bs a w) {i : Nat} {s : Stp} {o : Oper} (hs : ss[i]? = some s) (ho : l[i]? = some o) (hsz : i < listed.size) (hun : listed.getD i true = false) (hpr : ∀ j ∈ directs l i, listed.getD j false = true) :
    ∀ {Q : Exit → Act → World → Prop}, if Region.wanted o (yielded l.toArray a.tmps) then o.wp P a w (fun a' w' => ∃ vals' bs', Pre w0 σ φ n b ss (listed.setIfInBounds i true) vals' bs' a' w') Q ∨ (o.asks P a w ∧ LetsOut Q)
      else (∃ vals' bs', Pre w0 σ φ n b ss (listed.setIfInBounds i true) vals' bs' (a.put o.dst undef) w) := by
  obtain ⟨o', ho', hdst, hgd, hps⟩ := hokS i s.d s.preds (by rw [List.getElem?_map, hs]; rfl)
  obtain rfl : o = o' := by rw [ho] at ho'; simpa using ho'
  have hob' := hob.get i s o hs ho
  have hunf : listed.getD i false = false := by simpa [Array.getD, hsz] using hun
  have hdi : (ss.map (·.d))[i]? = some s.d := by rw [List.getElem?_map, hs]; rfl
  have hnd : (ss.map (·.d)).Nodup := by have := hokN; rwa [List.map_map] at this
  intro Q
  have hfr := hp.fr
  subst hfr
  unfold Obl at hob'
  cases hal : s.al with
  | some p =>
    obtain ⟨T, z⟩ := p
    rw [hal] at hob'
    rw [if_pos (by simp [Region.wanted, hgd T hob'.1])]
    refine .inl (alloc_wp hob'.1 hdst hob'.2 ⟨setV vals i (.pointer (some ⟨w.heap.size, 0, none⟩)), setN bs i w.heap.size, ?_⟩)
    have hst := (hp.st.addBox T z)
    have hperm : (σ ++ exOf (listed.setIfInBounds i true) (setN bs i w.heap.size) ss 0).Perm ((σ ++ exOf listed bs ss 0) ++ [box w.heap.size T z]) := by
      rw [List.append_assoc]
      refine List.Perm.append_left _ ?_
      have := exOf_new (listed := listed) (bs := bs) (x := w.heap.size) ss 0 i s hs hal (by simpa using hsz) (by simpa using hunf)
      simpa using this
    refine ⟨act_pends_put n b _ hnd vals i s.d hdi _, hst.perm hperm, ?_, ?_⟩
    · intro j s' hj hne hl
      by_cases h : j = i
      · subst h; simp [setV, setN]
      · rw [getD_set_other _ _ _ (fun e => h e.symm)] at hl
        have := hp.made j s' hj hne hl
        simp [setV, setN, h, this]
    · intro j s' hj hn hl
      have h : j ≠ i := by rintro rfl; rw [hs] at hj; simp at hj; subst hj; rw [hal] at hn; cases hn
      rw [getD_set_other _ _ _ (fun e => h e.symm)] at hl
      have hf := hp.fact j s' hj hn hl
      rw [show setV vals i _ j = vals j from by simp [setV, h]]
      refine VP.mono _ _ _ w _ hf (by simp) (fun k hk _ => Below.heap_alloc _ _ _ hk) ?_
      intro k hk hX
      rcases hX with ⟨r, hr, hrk⟩ | hX
      · rcases List.mem_append.1 (hperm.mem_iff.1 hr) with hr | hr
        · exact .inl ⟨r, hr, hrk⟩
        · obtain rfl := List.mem_singleton.1 hr
          simp [box] at hrk
          omega
      · exact .inr hX
  | none =>
    rw [hal] at hob'
    have hst : St w0 w (σ ++ exOf listed bs ss 0) (factsOf ss vals s.preds ++ (φ ++ listedFacts listed vals ss 0)) := by
      refine ⟨hp.st.base, hp.st.own, hp.st.fresh, hp.st.dist, fun p hpm => ?_⟩
      rcases List.mem_append.1 hpm with hpm | hpm
      · obtain ⟨j, hj, rfl⟩ := mem_factsOf hpm
        have hjl := hpr j (hps j hj)
        have hji : j < i := hokE i (List.getElem?_eq_some_iff.1 ho).1 j (hps j hj)
        have hjs : j < ss.length := by have := (List.getElem?_eq_some_iff.1 hs).1; omega
        have hg : ss[j]? = some ss[j] := List.getElem?_eq_getElem hjs
        rw [getF_get hg]
        cases hal' : (ss[j]).al with
        | none => exact hp.fact j _ hg hal' hjl
        | some q => exact trivial
      · rcases List.mem_append.1 hpm with hpm | hpm
        · exact hp.st.views p hpm
        · obtain ⟨j, s', h1, h2, h3, rfl⟩ := mem_listedFacts ss 0 hpm
          simp only [Nat.zero_add] at h3 ⊢
          exact hp.fact j s' h1 h2 h3
    refine wpList_one (fun c a w h => h) (fun h => by obtain ⟨a, w, h⟩ := h; exact h) (hob' vals (exOf listed bs ss 0) (listedFacts listed vals ss 0) w hst) ?_
    rintro a' w' ⟨v, φ'', rfl, hst', hF, hsub⟩
    refine ⟨setV vals i v, bs, ?_⟩
    have hex : exOf (listed.setIfInBounds i true) bs ss 0 = exOf listed bs ss 0 := exOf_congr ss 0 fun j s' hj hne => by
      have h : j ≠ i := by rintro rfl; rw [hs] at hj; simp at hj; subst hj; exact hne hal
      rw [Nat.zero_add, getD_set_other _ _ _ (fun e => h e.symm)]
      exact ⟨rfl, fun _ => rfl⟩
    refine ⟨act_pends_put n b _ hnd vals i s.d hdi v, ?_, ?_, ?_⟩
    · rw [hex]
      exact hst'.weaken fun p hp' => hsub p (List.mem_append_right _ (List.mem_append_left _ hp'))
    · intro j s' hj hne hl
      have h : j ≠ i := by rintro rfl; rw [hs] at hj; simp at hj; subst hj; exact hne hal
      rw [getD_set_other _ _ _ (fun e => h e.symm)] at hl
      rw [show setV vals i v j = vals j from by simp [setV, h]]
      exact hp.made j s' hj hne hl
    · intro j s' hj hn hl
      rw [hex]
      by_cases h : j = i
      · subst h
        rw [hs] at hj
        simp at hj
        subst hj
        simpa [setV] using hF
      · rw [getD_set_other _ _ _ (fun e => h e.symm)] at hl
        rw [show setV vals i v j = vals j from by simp [setV, h]]
        have hm := listedFacts_mem (listed := listed) (vals := vals) ss 0 j hj hn (by simpa using hl)
        simp only [Nat.zero_add] at hm
        exact hst'.views _ (hsub _ (List.mem_append_right _ (List.mem_append_right _ hm)))


theorem exOf_made {listed : Array Bool} {bs : Nat → Nat} : ∀ (ss : List Stp) (k : Nat), (∀ j s, ss[j]? = some s → s.al ≠ none → listed.getD (k + j) false = true) → exOf listed bs ss k = madeBy bs ss k
  | [], _, _ => rfl
  | s :: ss, k, h => by
    have ih := exOf_made (listed := listed) (bs := bs) ss (k + 1) (fun j s' hj hn => by
      have := h (j + 1) s' (by simpa using hj) hn
      rwa [show k + (j + 1) = k + 1 + j from by omega] at this)
    rw [exOf, madeBy, ih]
    cases hal : s.al with
    | none => rfl
    | some p =>
      have := h 0 s rfl (by rw [hal]; simp)
      simp only [Nat.add_zero] at this
      simp [this]
/-- The store is done, the late operation is not. -/
structure MidL (P : Program) (l : List Oper) (Q : Exit → Act → World → Prop) (np e : Nat) (o : Oper) (listed : Array Bool) (a : Act) (w : World) : Prop where
  below : ∀ i, i ≤ np → i ≠ e → listed.getD i false = true
  late : listed.getD e false = false
  above : ∀ i, np < i → listed.getD i false = false
  go : wpList P l.toArray Q (o :: l.drop (np + 1)) a w

theorem JC_late (hm : P.follows .mixedOrders = true) {id : Nat} {l : List Oper} (np n e : Nat) {b : List Value} (ss : List Stp) (hok : lateOk l np e (ss.map fun s => (s.d, s.preds)) = true) (hob : Obls P l w0 σ φ n b ss ss l)
    (hal : ∀ s, ss[e]? = some s → s.al = none) {os oe : Oper} (hos : l[np]? = some os) (hoe : l[e]? = some oe)
    (hfin : ∀ vals bs, JL P l.toArray Q w0 (σ ++ madeBy bs ss 0) (allFacts vals bs ss 0 ++ φ) (l.drop np) ⟨n, pends (ss.map (·.d)) vals 0, b⟩)
    (hfinB : ∀ vals bs w, St w0 w (σ ++ madeBy bs ss 0) φ → (∀ i s, ss[i]? = some s → s.al ≠ none → vals i = .pointer (some ⟨bs i, 0, none⟩)) →
      (∀ i s, ss[i]? = some s → i ≠ e → s.al = none → (s.F (vals i)).holds (Xof w0 (σ ++ madeBy bs ss 0) true) w) → wpList P l.toArray Q (os :: oe :: l.drop (np + 1)) (act ⟨n, pends (ss.map (·.d)) vals 0, b⟩) w) :
    JC P (.region id l.toArray true) Q w0 σ φ ⟨n, [], b⟩ := by
  intro w s
  have ok := lateOk_spec hok
  have hssl : ss.length = np := by have := ok.len; simpa using this
  refine wp_region_any hm ?_
  let Inv : Array Bool → Act → World → Prop := fun listed a w =>
    listed.size = l.length ∧ Down l listed ∧
      (((∀ i, np ≤ i → listed.getD i false = false) ∧ ∃ vals bs, Pre w0 σ φ n b ss listed vals bs a w) ∨ MidL P l Q np e oe listed a w ∨ ∃ k, np ≤ k ∧ Tail P l Q k listed a w)
  -- when all of the prefix is listed, the tail begins
  have toTail : ∀ listed a w, listed.size = l.length → (∀ i, np ≤ i → listed.getD i false = false) → (∀ i, i < np → listed.getD i false = true) → (∃ vals bs, Pre w0 σ φ n b ss listed vals bs a w) → Tail P l Q np listed a w := by
    rintro listed a w hs h1 h2 ⟨vals, bs, hp⟩
    refine ⟨h2, h1, ?_⟩
    have hfr := hp.fr
    subst hfr
    have hex : exOf listed bs ss 0 = madeBy bs ss 0 := exOf_all ss 0 fun j hj => by rw [Nat.zero_add]; exact h2 j (by omega)
    have hst := hp.st
    have hfact := hp.fact
    rw [hex] at hst hfact
    refine hfin vals bs w ⟨hst.base, hst.own, hst.fresh, hst.dist, fun p hpm => ?_⟩
    rcases List.mem_append.1 hpm with hpm | hpm
    · obtain ⟨j, s', h3, h4⟩ := mem_allFacts ss 0 hpm
      rw [Nat.zero_add] at h4
      have hj : j < np := by have := (List.getElem?_eq_some_iff.1 h3).1; omega
      rcases h4 with ⟨hn, rfl⟩ | ⟨hn, rfl⟩
      · exact hfact j s' h3 hn (h2 j hj)
      · exact hp.made j s' h3 hn (h2 j hj)
    · exact hst.views p hpm
  -- when all but the late operation is listed, the store may come
  have toMid : ∀ listed a w, listed.size = l.length → (∀ i, i < np → i ≠ e → listed.getD i false = true) → (∃ vals bs, Pre w0 σ φ n b ss listed vals bs a w) → wpList P l.toArray Q (os :: oe :: l.drop (np + 1)) a w := by
    rintro listed a w hs h2 ⟨vals, bs, hp⟩
    have hfr := hp.fr
    subst hfr
    have hex : exOf listed bs ss 0 = madeBy bs ss 0 := exOf_made ss 0 fun j s' hj hn => by
      rw [Nat.zero_add]
      refine h2 j (by have := (List.getElem?_eq_some_iff.1 hj).1; omega) ?_
      rintro rfl
      exact hn (hal _ hj)
    have hst := hp.st
    have hfact := hp.fact
    rw [hex] at hst hfact
    refine hfinB vals bs w hst (fun i s' hi hn => hp.made i s' hi hn (h2 i (by have := (List.getElem?_eq_some_iff.1 hi).1; omega) (by rintro rfl; exact hn (hal _ hi)))) (fun i s' hi hne hn => hfact i s' hi hn (h2 i (by have := (List.getElem?_eq_some_iff.1 hi).1; omega) hne))
  -- an index that is ready: all that comes before it in the order is listed
  have tailPre : ∀ (listed : Array Bool), Down l listed → ∀ i, i ∈ Region.ready .any l.toArray listed → (∀ j ∈ directs l i, listed.getD j false = true) ∧ (np < i → ∀ j, j < i → listed.getD j false = true) ∧ (i = np → ∀ j, j < np → j ≠ e → listed.getD j false = true) := by
    intro listed hd i hi
    obtain ⟨h1, h2, o, ho, h3⟩ := mem_ready hi
    have hdir : ∀ j ∈ directs l i, listed.getD j false = true := by
      intro j hj
      obtain ⟨o', e', ho', he, hb, rfl⟩ := directs_inv hj
      have : o = o' := by
        have h4 : l[i]? = some o := by simpa using ho
        rw [h4] at ho'; simpa using ho'
      subst this
      exact h3 e' he hb
    exact ⟨hdir, fun hnp j hj => reach_listed hd i i hdir j (ok.tail i hnp (by simpa using h1) j hj), fun hi' j hj hne => by subst hi'; exact reach_listed hd i i hdir j (ok.late j hj hne)⟩
  have down_set : ∀ (listed : Array Bool) (i : Nat), listed.size = l.length → i < l.length → Down l listed → (∀ j ∈ directs l i, listed.getD j false = true) → Down l (listed.setIfInBounds i true) := by
    intro listed i hs hi hd hdir j hj k hk
    by_cases h : i = k
    · subst h; exact getD_set_same _ _ (by omega) _
    · rw [getD_set_other _ _ _ h]
      by_cases h' : i = j
      · subst h'; exact hdir k hk
      · rw [getD_set_other _ _ _ h'] at hj
        exact hd j hj k hk
  have hlt := ok.lt
  have helt := ok.elt
  refine wpAny_inv Inv ?_ ?_ _ _ _ _ (by simp) (by simp [unl, List.countP_replicate]) ?_
  · rintro listed a w i ⟨hs, hd, hI⟩ hi
    obtain ⟨h1, h2, o, ho, h3⟩ := mem_ready hi
    have ho' : l[i]? = some o := by simpa using ho
    have hil : i < l.length := by simpa using h1
    have h4 : listed.getD i false = false := by simpa [Array.getD, h1, hs, hil] using h2
    obtain ⟨hdir, htl, hnp⟩ := tailPre listed hd i hi
    have hds := down_set listed i hs hil hd hdir
    -- an operation of a list of what is to come
    have run : ∀ (rest' : List Oper), wpList P l.toArray Q (o :: rest') a w → (∀ a' w', wpList P l.toArray Q rest' a' w' → Inv (listed.setIfInBounds i true) a' w') → wpOp P l.toArray Q i (fun a' w' => Inv (listed.setIfInBounds i true) a' w') a w := by
      intro rest' hgo hnext
      unfold wpOp
      rw [ho]
      simp only
      unfold wpList at hgo
      split at hgo
      · rename_i hw
        rw [if_pos hw]
        exact hgo.imp (Oper.wp_mono hnext) (fun h => h)
      · rename_i hw
        rw [if_neg hw]
        exact hnext _ _ hgo
    have tailStep : ∀ k, np ≤ k → k = i → Tail P l Q k listed a w → wpOp P l.toArray Q i (fun a' w' => Inv (listed.setIfInBounds i true) a' w') a w := by
      rintro k hk rfl hT
      have hgo := hT.go
      rw [List.drop_eq_getElem_cons hil] at hgo
      have hget : l[k] = o := by rw [List.getElem?_eq_getElem hil] at ho'; simpa using ho'
      rw [hget] at hgo
      refine run _ hgo fun a' w' h => ⟨by simpa using hs, hds, .inr (.inr ⟨k + 1, by omega, ⟨?_, ?_, h⟩⟩)⟩
      · intro j hj
        by_cases e : k = j
        · subst e; exact getD_set_same _ _ (by omega) _
        · rw [getD_set_other _ _ _ e]; exact hT.below j (by omega)
      · intro j hj
        rw [getD_set_other _ _ _ (by omega)]
        exact hT.above j (by omega)
    rcases hI with ⟨hA, vals, bs, hP⟩ | hM | ⟨k, hk, hT⟩
    · rcases Nat.lt_or_ge i np with hlt' | hge
      · have hss : ss[i]? = some (ss[i]'(by omega)) := List.getElem?_eq_getElem (by omega)
        have hstep := Pre.step0 ok hob hP hss ho' (by omega) h2 hdir (Q := Q)
        have hmono : ∀ a' w', (∃ vals' bs', Pre w0 σ φ n b ss (listed.setIfInBounds i true) vals' bs' a' w') → Inv (listed.setIfInBounds i true) a' w' := fun a' w' hex =>
          ⟨by simpa using hs, hds, .inl ⟨fun j hj => by rw [getD_set_other _ _ _ (by omega)]; exact hA j hj, hex⟩⟩
        unfold wpOp
        rw [ho]
        simp only
        split at hstep
        · rename_i hw
          rw [if_pos hw]
          exact hstep.imp (Oper.wp_mono hmono) (fun h => h)
        · rename_i hw
          rw [if_neg hw]
          exact hmono _ _ hstep
      · have hin : i = np := by
          rcases Nat.lt_or_ge np i with h | h
          · have := htl h np h
            rw [hA np (Nat.le_refl _)] at this
            cases this
          · omega
        have hall := hnp hin
        cases hle : listed.getD e false with
        | true =>
          refine tailStep np (Nat.le_refl _) hin.symm (toTail listed a w hs hA (fun j hj => ?_) ⟨vals, bs, hP⟩)
          by_cases h : j = e
          · subst h; exact hle
          · exact hall j hj h
        | false =>
          have hgo := toMid listed a w hs hall ⟨vals, bs, hP⟩
          subst hin
          obtain rfl : o = os := by rw [ho'] at hos; simpa using hos
          refine run _ hgo fun a' w' h => ⟨by simpa using hs, hds, .inr (.inl ⟨?_, ?_, ?_, h⟩)⟩
          · intro j hj hne
            by_cases e' : i = j
            · subst e'; exact getD_set_same _ _ (by omega) _
            · rw [getD_set_other _ _ _ e']; exact hall j (by omega) hne
          · rw [getD_set_other _ _ _ (by omega)]; exact hle
          · intro j hj
            rw [getD_set_other _ _ _ (by omega)]
            exact hA j (by omega)
    · have hie : i = e := by
        rcases Nat.lt_or_ge np i with h | h
        · have := htl h e (by omega)
          rw [hM.late] at this
          cases this
        · by_cases he : i = e
          · exact he
          · have := hM.below i h he
            rw [this] at h4
            cases h4
      subst hie
      obtain rfl : o = oe := by rw [ho'] at hoe; simpa using hoe
      refine run _ hM.go fun a' w' h => ⟨by simpa using hs, hds, .inr (.inr ⟨np + 1, by omega, ⟨?_, ?_, h⟩⟩)⟩
      · intro j hj
        by_cases e' : i = j
        · subst e'; exact getD_set_same _ _ (by omega) _
        · rw [getD_set_other _ _ _ e']; exact hM.below j (by omega) (fun h => e' h.symm)
      · intro j hj
        rw [getD_set_other _ _ _ (by omega)]
        exact hM.above j (by omega)
    · refine tailStep k hk ?_ hT
      have h5 : k ≤ i := by
        rcases Nat.lt_or_ge i k with h | h
        · have := hT.below i h; rw [this] at h4; cases h4
        · exact h
      rcases Nat.lt_or_ge k i with h | h
      · have := htl (by omega) k h
        rw [hT.above k (Nat.le_refl _)] at this
        cases this
      · omega
  · rintro listed a w ⟨hs, hd, hI⟩ hr
    -- nothing is ready: all is listed
    have hall : ∀ i, i < l.length → listed.getD i false = true := by
      intro i
      induction i using Nat.strongRecOn with
      | _ i ih =>
        intro hi
        cases hl : listed.getD i false with
        | true => rfl
        | false =>
          exfalso
          have : i ∈ Region.ready .any l.toArray listed := by
            refine ready_of (o := l[i]) (by simp [hi]) (by simpa [Array.getD, hs, hi] using hl) ?_
            intro e he hb
            have hdir := directs_spec (l := l) (i := i) (List.getElem?_eq_getElem hi) he hb
            have := ok.early i hi _ hdir
            exact ih e.on this (by omega)
          rw [hr] at this
          cases this
    rcases hI with ⟨hA, _⟩ | hM | ⟨k, hk, hT⟩
    · have := hall np hlt
      rw [hA np (Nat.le_refl _)] at this
      cases this
    · have := hall e (by omega)
      rw [hM.late] at this
      cases this
    · have hkl : l.length ≤ k := by
        rcases Nat.lt_or_ge k l.length with h | h
        · have := hall k h
          rw [hT.above k (Nat.le_refl _)] at this
          cases this
        · exact h
      have hgo := hT.go
      rw [List.drop_eq_nil_of_le hkl] at hgo
      exact hgo
  · have hrep' : ∀ i, (Array.replicate l.toArray.size false).getD i false = false := fun i => by simp [Array.getD]
    refine ⟨by simp, fun i hi => (by rw [hrep' i] at hi; cases hi), .inl ⟨fun i _ => hrep' i, fun i => lookL b ((ss.map (·.d)).getD i 0), fun _ => 0, ?_⟩⟩
    refine ⟨(act_pends_start n b _).symm, ?_, fun i _ _ _ h => (by rw [hrep' i] at h; cases h), fun i _ _ _ h => (by rw [hrep' i] at h; cases h)⟩
    have hex : exOf (Array.replicate l.toArray.size false) (fun _ => 0) ss 0 = [] := by
      have : ∀ (ts : List Stp) (k : Nat), exOf (Array.replicate l.toArray.size false) (fun _ => 0) ts k = [] := by
        intro ts
        induction ts with
        | nil => intro k; rfl
        | cons t ts ih =>
          intro k
          rw [exOf, ih]
          cases t.al with
          | none => rfl
          | some q => simp only; rw [hrep' k]; rfl
      exact this ss 0
    rw [hex, List.append_nil]
    exact s.ext ((Below.refl _ _).drew)

/-- The facts of the prefix, where walks use them. -/
theorem finS {ts : List Sp} {vals : Nat → Value} {bs : Nat → Nat} {n : Nat} {b : List Value} {L : List Oper} {w : World} (st : St w0 w (σ ++ madeBy bs (ts.map Sp.toStp) 0) φ)
    (ha : ∀ (j : Nat) (s : Sp), ts[j]? = some s → s.al ≠ none → vals j = .pointer (some ⟨bs j, 0, none⟩)) (hf : ∀ (j : Nat) (s : Sp), ts[j]? = some s → s.al = none → (s.F (vals j)).holds (Xof w0 (σ ++ madeBy bs (ts.map Sp.toStp) 0) true) w)
    (h : JL P ops Q w0 (σ ++ madeS bs ts 0) (allPosts vals ts 0 ++ φ) L ⟨n, pendsF vals bs ts 0, b⟩) : wpList P ops Q L (act ⟨n, pends ((ts.map Sp.toStp).map (·.d)) vals 0, b⟩) w := by
  have hv : ∀ (j : Nat) (s : Sp) (V : Value), ts[j]? = some s → s.al = none → s.pv = some V → vals j = V := by
    intro j s V hj hal hpv
    have := hf j s hj hal
    simp only [Sp.F, hpv] at this
    exact this
  have hpf : pendsF vals bs ts 0 = pends ((ts.map Sp.toStp).map (·.d)) vals 0 := pendsF_eq ts 0 (fun j s V hj hal hpv => by rw [Nat.zero_add]; exact hv j s V hj hal hpv) (fun j s q hj hal => by rw [Nat.zero_add]; exact ha j s hj (by rw [hal]; simp))
  have hpost : ∀ p ∈ allPosts vals ts 0, p.2.holds (Xof w0 (σ ++ madeBy bs (ts.map Sp.toStp) 0) p.1) w := by
    have : ∀ (us : List Sp) (k : Nat), (∀ (j : Nat) (s : Sp), us[j]? = some s → ts[k + j]? = some s) → ∀ p ∈ allPosts vals us k, p.2.holds (Xof w0 (σ ++ madeBy bs (ts.map Sp.toStp) 0) p.1) w := by
      intro us
      induction us with
      | nil => intro k _ p h; cases h
      | cons t us ih =>
        intro k hts p h
        have ih' := ih (k + 1) (fun j s hj => by rw [show k + 1 + j = k + (j + 1) from by omega]; exact hts (j + 1) s (by simpa using hj)) p
        rw [allPosts] at h
        have ht := hts 0 t rfl
        simp only [Nat.add_zero] at ht
        cases hal : t.al with
        | some q => rw [hal] at h; exact ih' h
        | none =>
          rw [hal] at h
          simp only at h
          cases hpv : t.pv with
          | some V => rw [hpv] at h; exact ih' h
          | none =>
            rw [hpv] at h
            rcases List.mem_cons.1 h with rfl | h
            · have := hf k t ht hal
              simp only [Sp.F, hpv] at this
              exact this
            · exact ih' h
    exact this ts 0 (fun j s hj => by rw [Nat.zero_add]; exact hj)
  have := h w
  rw [hpf, madeS_eq] at this
  refine this ⟨st.base, st.own, st.fresh, st.dist, fun p hp => ?_⟩
  rcases List.mem_append.1 hp with hp | hp
  · exact hpost p hp
  · exact st.views p hp
/-- The operation e of the prefix is not yet done: nothing is known of its value. -/
def lateB : List Sp → Nat → List Sp
  | [], _ => []
  | s :: l, 0 => ⟨s.d, s.preds, none, fun _ _ => True, s.al⟩ :: l
  | s :: l, e + 1 => s :: lateB l e
theorem lateB_d : ∀ (ss : List Sp) (e : Nat), ((lateB ss e).map Sp.toStp).map (·.d) = (ss.map Sp.toStp).map (·.d)
  | [], _ => rfl
  | _ :: _, 0 => rfl
  | s :: l, e + 1 => by rw [lateB, List.map_cons, List.map_cons, lateB_d l e]; rfl
theorem lateB_made (bs : Nat → Nat) : ∀ (ss : List Sp) (e k : Nat), madeBy bs ((lateB ss e).map Sp.toStp) k = madeBy bs (ss.map Sp.toStp) k
  | [], _, _ => rfl
  | _ :: _, 0, _ => rfl
  | s :: l, e + 1, k => by
    rw [lateB, List.map_cons, List.map_cons, madeBy, madeBy, lateB_made bs l e (k + 1)]
theorem lateB_get : ∀ (ss : List Sp) (e j : Nat) (s : Sp), (lateB ss e)[j]? = some s → (j ≠ e ∧ ss[j]? = some s) ∨ (j = e ∧ s.pv = none ∧ s.post = (fun _ _ => True) ∧ ∃ s', ss[j]? = some s' ∧ s'.al = s.al)
  | [], _, _, _, h => by simp [lateB] at h
  | t :: l, 0, 0, s, h => by
    simp only [lateB, List.getElem?_cons_zero, Option.some.injEq] at h
    subst h
    exact .inr ⟨rfl, rfl, rfl, t, rfl, rfl⟩
  | t :: l, 0, j + 1, s, h => by
    simp only [lateB, List.getElem?_cons_succ] at h
    exact .inl ⟨by omega, by simpa using h⟩
  | t :: l, e + 1, 0, s, h => by
    simp only [lateB, List.getElem?_cons_zero, Option.some.injEq] at h
    subst h
    exact .inl ⟨by omega, rfl⟩
  | t :: l, e + 1, j + 1, s, h => by
    simp only [lateB, List.getElem?_cons_succ] at h
    rcases lateB_get l e j s h with ⟨h1, h2⟩ | ⟨h1, h2, h3, s', h4, h5⟩
    · exact .inl ⟨by omega, by simpa using h2⟩
    · exact .inr ⟨by omega, h2, h3, s', by simpa using h4, h5⟩
theorem JC_drawLate {n : Nat} {b : List Value} (hm : P.follows .mixedOrders = true) {id : Nat} {l : List Oper} (np e : Nat) (ss : List Sp) (hob : OblsS P l w0 σ φ n b ss ss l) (hok : lateOk l np e (ss.map fun s => (s.d, s.preds)) = true)
    (hal : (ss[e]?).bind (·.al) = none) {os oe : Oper} (hos : l[np]? = some os) (hoe : l[e]? = some oe)
    (hfin : ∀ vals bs, JL P l.toArray Q w0 (σ ++ madeS bs ss 0) (allPosts vals ss 0 ++ φ) (l.drop np) ⟨n, pendsF vals bs ss 0, b⟩)
    (hfinB : ∀ vals bs, JL P l.toArray Q w0 (σ ++ madeS bs (lateB ss e) 0) (allPosts vals (lateB ss e) 0 ++ φ) (os :: oe :: l.drop (np + 1)) ⟨n, pendsF vals bs (lateB ss e) 0, b⟩) :
    JC P (.region id l.toArray true) Q w0 σ φ ⟨n, [], b⟩ := by
  have hds : (ss.map Sp.toStp).map (fun s => (s.d, s.preds)) = ss.map fun s => (s.d, s.preds) := by rw [List.map_map]; rfl
  have toStp_get : ∀ (ts : List Sp) (j : Nat) (s : Sp), ts[j]? = some s → (ts.map Sp.toStp)[j]? = some s.toStp := fun ts j s h => by rw [List.getElem?_map, h]; rfl
  refine JC_late hm np n e (ss.map Sp.toStp) (by rw [hds]; exact hok) ?_ ?_ hos hoe ?_ ?_
  · have : ∀ (ts : List Sp) (os : List Oper), OblsS P l w0 σ φ n b ss ts os → Obls P l w0 σ φ n b (ss.map Sp.toStp) (ts.map Sp.toStp) os := by
      intro ts
      induction ts with
      | nil => intro os _; trivial
      | cons t ts ih =>
        intro os h
        cases os with
        | nil => exact h.elim
        | cons o os => exact ⟨OblS.obl h.1, ih os h.2⟩
    exact this ss l hob
  · intro s h
    rw [List.getElem?_map] at h
    cases hs : ss[e]? with
    | none => rw [hs] at h; cases h
    | some t =>
      rw [hs] at h hal
      simp only [Option.map_some, Option.some.injEq] at h
      subst h
      exact hal
  · intro vals bs w st
    have hmem : ∀ (ts : List Sp) (k j : Nat) (s : Sp), ts[j]? = some s → (match s.al with | some _ => (true, vPure (vals (k + j) = Value.pointer (some ⟨bs (k + j), 0, none⟩))) | none => (true, s.F (vals (k + j))) : Bool × VP) ∈ allFacts vals bs (ts.map Sp.toStp) k := by
      intro ts
      induction ts with
      | nil => intro k j s h; simp at h
      | cons t ts ih =>
        intro k j s h
        rw [List.map_cons, allFacts]
        show _ ∈ (match t.al with | some _ => _ | none => _)
        cases j with
        | zero =>
          simp at h
          subst h
          simp only [Nat.add_zero]
          cases t.al with
          | some q => exact List.mem_cons_self
          | none => exact List.mem_cons_self
        | succ j =>
          have := ih (k + 1) j s (by simpa using h)
          rw [show k + 1 + j = k + (j + 1) from by omega] at this
          cases t.al with
          | some q => exact List.mem_cons_of_mem _ this
          | none => exact List.mem_cons_of_mem _ this
    refine finS (ts := ss) ⟨st.base, st.own, st.fresh, st.dist, fun p hp => st.views p (List.mem_append_right _ hp)⟩ ?_ ?_ (hfin vals bs)
    · intro j s hj hn
      have h1 := hmem ss 0 j s hj
      cases hal' : s.al with
      | none => exact absurd hal' hn
      | some q =>
        rw [hal'] at h1
        have := st.views _ (List.mem_append_left _ h1)
        simp only [Nat.zero_add] at this
        exact this
    · intro j s hj hn
      have h1 := hmem ss 0 j s hj
      rw [hn] at h1
      have := st.views _ (List.mem_append_left _ h1)
      simpa only [Nat.zero_add] using this
  · intro vals bs w st ha hf
    have := hfinB vals bs
    rw [← lateB_d ss e]
    have hmd := lateB_made bs ss e 0
    refine finS (ts := lateB ss e) (by rw [hmd]; exact st) ?_ ?_ this
    · intro j s hj hn
      rcases lateB_get ss e j s hj with ⟨_, h⟩ | ⟨_, _, _, s', h, h'⟩
      · exact ha j _ (toStp_get ss j s h) hn
      · exact ha j _ (toStp_get ss j s' h) (by show s'.al ≠ none; rw [h']; exact hn)
    · intro j s hj hn
      rw [hmd]
      rcases lateB_get ss e j s hj with ⟨hne, h⟩ | ⟨_, h1, h2, _⟩
      · exact hf j _ (toStp_get ss j s h) hne hn
      · have : s.F = vPost (fun _ _ => True) := by unfold Sp.F; rw [h1, h2]
        rw [this]
        exact ⟨[], trivial, fun p hp => by cases hp⟩

/-! ## Several late operations: behind the store each order is walked -/
def lateBs (ss : List Sp) : List Nat → List Sp
  | [] => ss
  | e :: es => lateB (lateBs ss es) e
theorem lateBs_d (ss : List Sp) : ∀ es, ((lateBs ss es).map Sp.toStp).map (·.d) = (ss.map Sp.toStp).map (·.d)
  | [] => rfl
  | e :: es => by rw [lateBs, lateB_d, lateBs_d ss es]
theorem lateBs_made (bs : Nat → Nat) (ss : List Sp) (k : Nat) : ∀ es, madeBy bs ((lateBs ss es).map Sp.toStp) k = madeBy bs (ss.map Sp.toStp) k
  | [] => rfl
  | e :: es => by rw [lateBs, lateB_made, lateBs_made bs ss k es]
theorem lateBs_get (ss : List Sp) : ∀ (es : List Nat) (j : Nat) (s : Sp), (lateBs ss es)[j]? = some s → (j ∉ es ∧ ss[j]? = some s) ∨ (j ∈ es ∧ s.pv = none ∧ s.post = (fun _ _ => True) ∧ ∃ s', ss[j]? = some s' ∧ s'.al = s.al)
  | [], j, s, h => .inl ⟨by simp, h⟩
  | e :: es, j, s, h => by
    rw [lateBs] at h
    rcases lateB_get _ e j s h with ⟨h1, h2⟩ | ⟨h1, h2, h3, s', h4, h5⟩
    · rcases lateBs_get ss es j s h2 with ⟨a1, a2⟩ | ⟨a1, a2, a3, a4⟩
      · exact .inl ⟨by simp [h1, a1], a2⟩
      · exact .inr ⟨by simp [a1], a2, a3, a4⟩
    · rcases lateBs_get ss es j s' h4 with ⟨a1, a2⟩ | ⟨a1, a2, a3, s'', a4, a5⟩
      · exact .inr ⟨by simp [h1], h2, h3, s', a2, h5⟩
      · exact .inr ⟨by simp [h1], h2, h3, s'', a4, a5.trans h5⟩
def listedOf (N np : Nat) (miss : List Nat) : Array Bool := ((List.range N).map fun i => i ≤ np && !miss.contains i).toArray
def subl : List Nat → List (List Nat)
  | [] => [[]]
  | a :: l => (subl l).map (a :: ·) ++ subl l
theorem mem_subl (p : Nat → Bool) : ∀ l : List Nat, l.filter p ∈ subl l
  | [] => by simp [subl]
  | a :: l => by
    have ih := mem_subl p l
    rw [List.filter_cons, subl]
    cases p a with
    | true => exact List.mem_append_left _ (List.mem_map.2 ⟨_, ih, rfl⟩)
    | false => exact List.mem_append_right _ ih
def closedM (l : List Oper) (late m : List Nat) : Bool := late.all fun j => m.contains j || (directs l j).all fun i => !m.contains i
def lateOkX (l : List Oper) (n : Nat) (late : List Nat) (subs : List (List Nat × Nat)) (ds : List (Nat × List Nat)) : Bool :=
  ds.length == n && decide (n < l.length) &&
  (late.all fun e => decide (e < n)) &&
  ((List.range l.length).all fun i => (directs l i).all fun j => j < i) &&
  ((List.range n).all fun i => match ds[i]? with | some (d, ps) => stepOk l i d ps | none => false) &&
  ((ds.map (·.1)).Nodup : Bool) &&
  ((List.range n).all fun i => late.contains i || (reach l n n).contains i) &&
  ((List.range l.length).all fun t => t ≤ n || (reach l t t).contains n) &&
  ((subl late).all fun m => !closedM l late m || subs.any fun p => p.1 == m) &&
  (subs.all fun p => unl (listedOf l.length n p.1) == p.2)
theorem wpAny_inv2 {P : Program} {md : Region.Mode} {ops : Array Oper} {Q : Exit → Act → World → Prop} (Inv : Array Bool → Act → World → Prop)
    (hstep : ∀ listed a w i, Inv listed a w → i ∈ Region.ready md ops listed → ∀ fuel, unl (listed.setIfInBounds i true) ≤ fuel → wpOp P ops Q i (fun a' w' => Inv (listed.setIfInBounds i true) a' w' ∨ wpAny P md ops Q fuel (listed.setIfInBounds i true) a' w') a w)
    (hend : ∀ listed a w, Inv listed a w → Region.ready md ops listed = [] → Q .normal a w) :
    ∀ (fuel : Nat) (listed : Array Bool) (a : Act) (w : World), listed.size = ops.size → unl listed ≤ fuel → Inv listed a w → wpAny P md ops Q fuel listed a w := by
  intro fuel
  induction fuel with
  | zero =>
    intro listed a w hs hu hI
    have hr : Region.ready md ops listed = [] := by
      cases hr : Region.ready md ops listed with
      | nil => rfl
      | cons i l =>
        have hm := mem_ready (md := md) (ops := ops) (listed := listed) (i := i) (by rw [hr]; exact List.mem_cons_self)
        have := unl_set hm.2.1
        omega
    exact ⟨hr, hend listed a w hI hr⟩
  | succ fuel ih =>
    intro listed a w hs hu hI
    refine ⟨fun hr => hend listed a w hI hr, fun i hi => ?_⟩
    have hm := mem_ready hi
    have hun := unl_set hm.2.1
    exact wpOp_mono (fun a' w' hI' => hI'.elim (ih _ a' w' (by simpa using hs) (by omega)) id) (hstep listed a w i hI hi fuel (by omega))
def AllX (P : Program) (l : List Oper) (Q : Exit → Act → World → Prop) (w0 : Ctx) (σ : List Res) (φ : List (Bool × VP)) (n np : Nat) (b : List Value) (ss : List Sp) (os : Oper) : List (List Nat × Nat) → Prop
  | [] => True
  | (m, rem) :: subs => (∀ vals bs r, JL P l.toArray (NextA P l Q (r + rem) (listedOf l.length np m)) w0 (σ ++ madeS bs (lateBs ss m) 0) (allPosts vals (lateBs ss m) 0 ++ φ) [os] ⟨n, pendsF vals bs (lateBs ss m) 0, b⟩) ∧ AllX P l Q w0 σ φ n np b ss os subs
theorem AllX.mem {l : List Oper} {n np : Nat} {b : List Value} {ss : List Sp} {os : Oper} {m : List Nat} {rem : Nat} : ∀ {subs : List (List Nat × Nat)}, AllX P l Q w0 σ φ n np b ss os subs → (m, rem) ∈ subs →
    ∀ vals bs r, JL P l.toArray (NextA P l Q (r + rem) (listedOf l.length np m)) w0 (σ ++ madeS bs (lateBs ss m) 0) (allPosts vals (lateBs ss m) 0 ++ φ) [os] ⟨n, pendsF vals bs (lateBs ss m) 0, b⟩
  | [], _, h => by cases h
  | (m', rem') :: subs, ha, h => by
    rcases List.mem_cons.1 h with h | h
    · cases h; exact ha.1
    · exact AllX.mem ha.2 h
theorem JC_drawX {n : Nat} {b : List Value} (hm : P.follows .mixedOrders = true) {id : Nat} {l : List Oper} (np : Nat) (late : List Nat) (subs : List (List Nat × Nat)) (ss : List Sp) (hob : OblsS P l w0 σ φ n b ss ss l) (hok : lateOkX l np late subs (ss.map fun s => (s.d, s.preds)) = true)
    (hal : (late.all fun e => ((ss[e]?).bind (·.al)).isNone) = true) {os : Oper} (hos : l[np]? = some os) (hfin : AllX P l Q w0 σ φ n np b ss os subs) :
    JC P (.region id l.toArray true) Q w0 σ φ ⟨n, [], b⟩ := by
  intro w s
  have hds : (ss.map Sp.toStp).map (fun s => (s.d, s.preds)) = ss.map fun s => (s.d, s.preds) := by rw [List.map_map]; rfl
  have toStp_get : ∀ (ts : List Sp) (j : Nat) (s : Sp), ts[j]? = some s → (ts.map Sp.toStp)[j]? = some s.toStp := fun ts j s h => by rw [List.getElem?_map, h]; rfl
  rw [← hds] at hok
  generalize hss' : ss.map Sp.toStp = ss' at hok
  unfold lateOkX at hok
  simp only [Bool.and_eq_true, decide_eq_true_eq, beq_iff_eq, List.all_eq_true, List.mem_range, Bool.or_eq_true] at hok
  obtain ⟨⟨⟨⟨⟨⟨⟨⟨⟨h1, h2⟩, hlt⟩, h3⟩, h4⟩, h5⟩, h7⟩, h6⟩, h8⟩, h9⟩ := hok
  have hssl : ss'.length = np := by simpa using h1
  have hstepOk : ∀ i d ps, (ss'.map fun s => (s.d, s.preds))[i]? = some (d, ps) → ∃ o, l[i]? = some o ∧ o.dst = some d ∧ (∀ T, o.op = .alloc T → o.guard = none) ∧ ∀ j ∈ ps, j ∈ directs l i := by
    intro i d ps hi
    have hilt : i < np := by rw [← h1]; exact (List.getElem?_eq_some_iff.1 hi).1
    have := h4 i hilt
    rw [hi] at this
    unfold stepOk at this
    simp only at this
    split at this
    · rename_i o ho
      simp only [Bool.and_eq_true, beq_iff_eq, List.all_eq_true] at this
      refine ⟨o, ho, this.1.1, fun T hT => ?_, fun j hj => ?_⟩
      · have h := this.1.2
        simpa [isAlloc, hT] using h
      have := this.2 j hj
      simpa using this
    · cases this
  have hob' : Obls P l w0 σ φ n b ss' ss' l := by
    have : ∀ (ts : List Sp) (os : List Oper), OblsS P l w0 σ φ n b ss ts os → Obls P l w0 σ φ n b (ss.map Sp.toStp) (ts.map Sp.toStp) os := by
      intro ts
      induction ts with
      | nil => intro os _; trivial
      | cons t ts ih =>
        intro os h
        cases os with
        | nil => exact h.elim
        | cons o os => exact ⟨OblS.obl h.1, ih os h.2⟩
    rw [← hss']
    exact this ss l hob
  have hal' : ∀ e ∈ late, ∀ s, ss'[e]? = some s → s.al = none := by
    intro e he s hs
    have := List.all_eq_true.1 hal e he
    rw [← hss', List.getElem?_map] at hs
    cases hse : ss[e]? with
    | none => rw [hse] at hs; cases hs
    | some t =>
      rw [hse] at hs this
      simp only [Option.map_some, Option.some.injEq] at hs
      subst hs
      show t.al = none
      simpa using this
  refine wp_region_any hm ?_
  let Inv : Array Bool → Act → World → Prop := fun listed a w => listed.size = l.length ∧ Down l listed ∧ (∀ i, np ≤ i → listed.getD i false = false) ∧ ∃ vals bs, Pre w0 σ φ n b ss' listed vals bs a w
  have hready : ∀ (listed : Array Bool), Down l listed → ∀ i, i ∈ Region.ready .any l.toArray listed → ∀ j ∈ directs l i, listed.getD j false = true := by
    intro listed hd i hi j hj
    obtain ⟨h1, h2, o, ho, h3⟩ := mem_ready hi
    obtain ⟨o', e', ho', he, hb, rfl⟩ := directs_inv hj
    have : o = o' := by
      have h4 : l[i]? = some o := by simpa using ho
      rw [h4] at ho'; simpa using ho'
    subst this
    exact h3 e' he hb
  have down_set : ∀ (listed : Array Bool) (i : Nat), listed.size = l.length → i < l.length → Down l listed → (∀ j ∈ directs l i, listed.getD j false = true) → Down l (listed.setIfInBounds i true) := by
    intro listed i hs hi hd hdir j hj k hk
    by_cases h : i = k
    · subst h; exact getD_set_same _ _ (by omega) _
    · rw [getD_set_other _ _ _ h]
      by_cases h' : i = j
      · subst h'; exact hdir k hk
      · rw [getD_set_other _ _ _ h'] at hj
        exact hd j hj k hk
  refine wpAny_inv2 Inv ?_ ?_ _ _ _ _ (by simp) (by simp [unl, List.countP_replicate]) ?_
  · rintro listed a w i ⟨hs, hd, hA, vals, bs, hP⟩ hi fuel hfuel
    obtain ⟨a1, a2, o, ho, _⟩ := mem_ready hi
    have ho' : l[i]? = some o := by simpa using ho
    have hil : i < l.length := by simpa using a1
    have hdir := hready listed hd i hi
    have hds' := down_set listed i hs hil hd hdir
    rcases Nat.lt_or_ge i np with hip | hip
    · have hsi : ss'[i]? = some (ss'[i]'(by omega)) := List.getElem?_eq_getElem (by omega)
      have hstep := Pre.step0' hstepOk h5 h3 hob' hP hsi ho' (by omega) a2 hdir (Q := Q)
      have hmono : ∀ a' w', (∃ vals' bs', Pre w0 σ φ n b ss' (listed.setIfInBounds i true) vals' bs' a' w') → Inv (listed.setIfInBounds i true) a' w' ∨ wpAny P .any l.toArray Q fuel (listed.setIfInBounds i true) a' w' := fun a' w' hex =>
        .inl ⟨by simpa using hs, hds', fun j hj => by rw [getD_set_other _ _ _ (by omega)]; exact hA j hj, hex⟩
      unfold wpOp
      rw [ho]
      simp only
      split at hstep
      · rename_i hw
        rw [if_pos hw]
        exact hstep.imp (Oper.wp_mono hmono) (fun h => h)
      · rename_i hw
        rw [if_neg hw]
        exact hmono _ _ hstep
    · have hin : i = np := by
        rcases Nat.lt_or_ge np i with h | h
        · have hr := (h6 i hil).resolve_left (by omega)
          have := reach_listed hd i i hdir np (by simpa using hr)
          rw [hA np (Nat.le_refl _)] at this
          cases this
        · omega
      subst hin
      obtain rfl : o = os := by rw [ho'] at hos; simpa using hos
      -- what is missing
      have hmiss : ∀ j, j < i → listed.getD j false = false → j ∈ late := by
        intro j hj hf
        rcases h7 j hj with h | h
        · simpa using h
        · have := reach_listed hd i i hdir j (by simpa using h)
          rw [this] at hf; cases hf
      generalize hmm : late.filter (fun j => !listed.getD j false) = m
      have hmem : ∀ j, j ∈ m ↔ j ∈ late ∧ listed.getD j false = false := by
        intro j; rw [← hmm, List.mem_filter]; simp
      have hcl : closedM l late m = true := by
        unfold closedM
        rw [List.all_eq_true]
        intro j hj
        cases hc : m.contains j with
        | true => rfl
        | false =>
          simp only [Bool.false_or, List.all_eq_true]
          intro k hk
          have hjl : listed.getD j false = true := by
            cases hb : listed.getD j false with
            | true => rfl
            | false => exact absurd ((hmem j).2 ⟨hj, hb⟩) (by simpa using hc)
          have := hd j hjl k hk
          have hkm : k ∉ m := fun h => by rw [((hmem k).1 h).2] at this; cases this
          simpa using hkm
      have hsub := h8 m (by rw [← hmm]; exact mem_subl _ _)
      rw [hcl] at hsub
      obtain ⟨⟨m', rem⟩, hp, hpm⟩ : ∃ p ∈ subs, p.1 = m := by
        rcases hsub with h | h
        · cases h
        · rw [List.any_eq_true] at h
          obtain ⟨p, hp, he⟩ := h
          exact ⟨p, hp, by simpa using he⟩
      obtain rfl : m' = m := hpm
      have hlo : listed.setIfInBounds i true = listedOf l.length i m' := by
        refine Array.ext (by simp [listedOf, hs]) fun j hj1 hj2 => ?_
        have hjl : j < l.length := by simpa [hs] using hj1
        have e1 : (listed.setIfInBounds i true)[j] = (listed.setIfInBounds i true).getD j false := by rw [Array.getD, dif_pos hj1]; rfl
        rw [e1]
        have e2 : (listedOf l.length i m')[j] = (decide (j ≤ i) && !m'.contains j) := by simp [listedOf]
        rw [e2]
        by_cases hji : i = j
        · subst hji
          rw [getD_set_same _ _ (by omega)]
          have : i ∉ m' := fun h => by have := hlt i ((hmem i).1 h).1; omega
          rw [show m'.contains i = false from by simpa using this, decide_eq_true (Nat.le_refl i)]; rfl
        · rw [getD_set_other _ _ _ hji]
          rcases Nat.lt_or_ge j i with h | h
          · rw [decide_eq_true (by omega), Bool.true_and]
            cases hb : listed.getD j false with
            | true =>
              have : j ∉ m' := fun h => by rw [((hmem j).1 h).2] at hb; cases hb
              rw [show m'.contains j = false from by simpa using this]; rfl
            | false => rw [show m'.contains j = true from by simpa using (hmem j).2 ⟨hmiss j h hb, hb⟩]; rfl
          · rw [hA j h, decide_eq_false (by omega)]; rfl
      have hrem : unl (listedOf l.length i m') = rem := h9 _ hp
      obtain ⟨r, hr⟩ : ∃ r, fuel = r + rem := ⟨fuel - rem, by rw [hlo, hrem] at hfuel; omega⟩
      have hgo := AllX.mem hfin hp vals bs r
      have hfr := hP.fr
      have hex : exOf listed bs ss' 0 = madeBy bs ss' 0 := exOf_made ss' 0 fun j s' hj hn => by
        rw [Nat.zero_add]
        cases hb : listed.getD j false with
        | true => rfl
        | false => exact absurd (hal' j (hmiss j (by have := (List.getElem?_eq_some_iff.1 hj).1; omega) hb) s' hj) hn
      have hst := hP.st
      have hfact := hP.fact
      rw [hex] at hst hfact
      have hmd := lateBs_made bs ss 0 m'
      rw [hss'] at hmd
      have hrun : wpList P l.toArray (NextA P l Q (r + rem) (listedOf l.length i m')) [o] a w := by
        rw [hfr, ← hss', ← lateBs_d ss m']
        refine finS (ts := lateBs ss m') (by rw [hmd]; exact hst) ?_ ?_ hgo
        · intro j s' hj hn
          rcases lateBs_get ss m' j s' hj with ⟨hjm, h⟩ | ⟨hjm, _, _, s'', h, h'⟩
          · have hjs : ss'[j]? = some s'.toStp := by rw [← hss']; exact toStp_get ss j s' h
            refine hP.made j _ hjs hn ?_
            cases hb : listed.getD j false with
            | true => rfl
            | false => exact absurd ((hmem j).2 ⟨hmiss j (by have := (List.getElem?_eq_some_iff.1 hjs).1; omega) hb, hb⟩) hjm
          · have hjs : ss'[j]? = some s''.toStp := by rw [← hss']; exact toStp_get ss j s'' h
            have := hal' j ((hmem j).1 hjm).1 _ hjs
            exact absurd (h'.symm.trans this) hn
        · intro j s' hj hn
          rw [hmd]
          rcases lateBs_get ss m' j s' hj with ⟨hjm, h⟩ | ⟨_, h1, h2, _⟩
          · have hjs : ss'[j]? = some s'.toStp := by rw [← hss']; exact toStp_get ss j s' h
            refine hfact j _ hjs hn ?_
            cases hb : listed.getD j false with
            | true => rfl
            | false => exact absurd ((hmem j).2 ⟨hmiss j (by have := (List.getElem?_eq_some_iff.1 hjs).1; omega) hb, hb⟩) hjm
          · have : s'.F = vPost (fun _ _ => True) := by unfold Sp.F; rw [h1, h2]
            rw [this]
            exact ⟨[], trivial, fun p hp => by cases hp⟩
      unfold wpOp
      rw [ho]
      simp only
      unfold wpList at hrun
      rw [hlo, hr]
      split at hrun
      · rename_i hw
        rw [if_pos hw]
        exact hrun.imp (fun h => Oper.wp_conv (fun a w h => .inr h) (fun _ _ _ h => h) (fun h => h) h) (fun h => ⟨h.1, h.2⟩)
      · rename_i hw
        rw [if_neg hw]
        exact .inr hrun
  · rintro listed a w ⟨hs, hd, hA, _⟩ hr
    exfalso
    have hall : ∀ i, i < l.length → listed.getD i false = true := by
      intro i
      induction i using Nat.strongRecOn with
      | _ i ih =>
        intro hi
        cases hl : listed.getD i false with
        | true => rfl
        | false =>
          exfalso
          have : i ∈ Region.ready .any l.toArray listed := by
            refine ready_of (o := l[i]) (by simp [hi]) (by simpa [Array.getD, hs, hi] using hl) ?_
            intro e he hb
            have hdir := directs_spec (l := l) (i := i) (List.getElem?_eq_getElem hi) he hb
            have := h3 i hi _ hdir
            exact ih e.on this (by omega)
          rw [hr] at this
          cases this
    have := hall np h2
    rw [hA np (Nat.le_refl _)] at this
    cases this
  · have hrep' : ∀ i, (Array.replicate l.toArray.size false).getD i false = false := fun i => by simp [Array.getD]
    refine ⟨by simp, fun i hi => (by rw [hrep' i] at hi; cases hi), fun i _ => hrep' i, fun i => lookL b ((ss'.map (·.d)).getD i 0), fun _ => 0, ?_⟩
    refine ⟨(act_pends_start n b _).symm, ?_, fun i _ _ _ h => (by rw [hrep' i] at h; cases h), fun i _ _ _ h => (by rw [hrep' i] at h; cases h)⟩
    have hex : exOf (Array.replicate l.toArray.size false) (fun _ => 0) ss' 0 = [] := by
      have : ∀ (ts : List Stp) (k : Nat), exOf (Array.replicate l.toArray.size false) (fun _ => 0) ts k = [] := by
        intro ts
        induction ts with
        | nil => intro k; rfl
        | cons t ts ih =>
          intro k
          rw [exOf, ih]
          cases t.al with
          | none => rfl
          | some q => simp only; rw [hrep' k]; rfl
      exact this ss' 0
    rw [hex, List.append_nil]
    exact s.ext ((Below.refl _ _).drew)
end
end Go.Fw
