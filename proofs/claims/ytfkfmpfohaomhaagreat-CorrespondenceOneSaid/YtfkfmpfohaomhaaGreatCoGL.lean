/- Chapter 18: matches; which numbers come twice. Plain. -/
import Derived.Test.YtfkfmpfohaomhaaGreatCoBF
import Derived.Test.YtfkfmpfohaomhaaGreatItK
import Derived.Test.YtfkfmpfohaomhaaGreatFwXY
namespace Go.Fw
open Go Go.RowKit
def mtS (a b : List Spc) (side : Int) : List Pr := srt (prsS a b side)
theorem mtS_len (a b : List Spc) (side : Int) : (mtS a b side).length ≤ a.length := Nat.le_trans (srt_len _) (prsS_len a b side)
theorem mtS_no {a b : List Spc} {side : Int} (h : errP a b side ≠ 0) : mtS a b side = [] := by unfold mtS; rw [prsS_no h]; rfl
def cntI (l : List Int) : List (Int × Int) := l.foldl (fun m p => setM p (getM 0 p m + 1) m) []
theorem cntI_snoc (l : List Int) (p : Int) : cntI (l ++ [p]) = setM p (getM 0 p (cntI l) + 1) (cntI l) := by unfold cntI; rw [List.foldl_append]; rfl
theorem cntI_nodup (l : List Int) : ((cntI l).map (·.1)).Nodup := by
  refine snoc_ind (M := fun l => ((cntI l).map (·.1)).Nodup) List.nodup_nil (fun l p ih => ?_) l
  rw [cntI_snoc]; exact setM_nodup ih
theorem cntI_keys (l : List Int) (x : Int) : x ∈ (cntI l).map (·.1) ↔ x ∈ l := by
  refine snoc_ind (M := fun l => x ∈ (cntI l).map (·.1) ↔ x ∈ l) Iff.rfl (fun l p ih => ?_) l
  · skip
    rw [cntI_snoc, setM_keys, List.mem_append, List.mem_singleton]
    split
    · rename_i h
      rw [ih]
      exact ⟨.inl, fun h' => h'.elim id fun e => by rw [e]; exact (show p ∈ (cntI l).map (·.1) ↔ p ∈ l from by rw [← e]; exact ih).1 h⟩
    · rw [List.mem_append, List.mem_singleton, ih]
theorem cntI_get (l : List Int) (x : Int) : getM 0 x (cntI l) = (l.count x : Int) := by
  refine snoc_ind (M := fun l => getM 0 x (cntI l) = (l.count x : Int)) rfl (fun l p ih => ?_) l
  · skip
    rw [cntI_snoc, getM_setM, List.count_append, List.count_singleton]
    by_cases h : p = x
    · subst h; simp [ih]
    · simp [h, ih]
theorem cntI_len (l : List Int) : (cntI l).length ≤ l.length := by
  have h := nodup_leP (cntI_nodup l) fun x hx => (cntI_keys l x).1 hx
  rwa [List.length_map] at h
theorem getM_mem {l : List (Int × Int)} {p : Int × Int} (hn : (l.map (·.1)).Nodup) (h : p ∈ l) : getM 0 p.1 l = p.2 := by
  obtain ⟨j, hj⟩ := List.mem_iff_getElem?.1 h
  exact getM_some hn (show l[j]? = some (p.1, p.2) from hj)
def delE (x : MapEntry) : Bool := match x.val with | .int _ v => decide (v < 2) | _ => false
theorem kept_keys : ∀ (l : List (Int × Int)) (n : Nat), ((mE iv iv l n).filter fun x => !delE x).map kdI = (l.filter fun p => !decide (p.2 < 2)).map (·.1)
  | [], _ => rfl
  | p :: l, n => by
    rw [mE, List.filter_cons, List.filter_cons]
    have e : delE ⟨iv p.1, iv p.2, n⟩ = decide (p.2 < 2) := rfl
    rw [e]
    split
    · rw [List.map_cons, List.map_cons, kept_keys l]; rfl
    · exact kept_keys l _
theorem esI_kept (l : List (Int × Int)) (f : MapEntry → Bool) : EsI ((mE iv iv l 0).filter f) l.length where
  old x hx := mE_old l x (List.mem_filter.1 hx).1
  nodup := (mE_bornN l).sublist (List.filter_sublist.map _)
  keys e he := by obtain ⟨j, p, _, rfl⟩ := mE_mem (List.mem_filter.1 he).1; rfl
def spK (L : List Int) : List Int := srtI (((cntI L).filter fun p => !decide (p.2 < 2)).map (·.1))
theorem mem_spK {L : List Int} {x : Int} : x ∈ spK L ↔ 2 ≤ L.count x := by
  unfold spK
  rw [mem_srtI, List.mem_map]
  constructor
  · rintro ⟨p, hp, rfl⟩
    obtain ⟨h1, h2⟩ := List.mem_filter.1 hp
    have h3 := getM_mem (cntI_nodup L) h1
    rw [cntI_get] at h3
    have h4 : ¬ p.2 < 2 := by simpa using h2
    omega
  · intro h
    have hx : x ∈ (cntI L).map (·.1) := (cntI_keys L x).2 (List.count_pos_iff.1 (by omega))
    obtain ⟨p, hp, rfl⟩ := List.mem_map.1 hx
    refine ⟨p, List.mem_filter.2 ⟨hp, ?_⟩, rfl⟩
    have h3 := getM_mem (cntI_nodup L) hp
    rw [cntI_get] at h3
    have : ¬ p.2 < 2 := by omega
    simpa using this
theorem spK_asc (L : List Int) : AscI (spK L) := by
  have hn : (spK L).Nodup := (srtI_perm _).symm.nodup ((cntI_nodup L).sublist (List.filter_sublist.map _))
  refine List.pairwise_iff_getElem.2 fun i j hi hj hij => ?_
  have hm : (spK L).Pairwise (· ≤ ·) := srtI_mono _
  have h1 := List.pairwise_iff_getElem.1 hm i j hi hj hij
  have h2 := List.pairwise_iff_getElem.1 hn i j hi hj hij
  show (spK L)[i] < (spK L)[j]
  omega
theorem spK_len (L : List Int) : (spK L).length ≤ L.length := by
  unfold spK
  rw [srtI_len, List.length_map]
  exact Nat.le_trans (List.length_filter_le _ _) (cntI_len L)
def splS (a b : List Spc) (side : Int) : List Int := spK ((mtS a b side).map (·.1))
theorem spK_nil : spK [] = [] := List.length_eq_zero_iff.1 (Nat.le_zero.1 (spK_len []))
theorem splS_no {a b : List Spc} {side : Int} (h : errP a b side ≠ 0) : splS a b side = [] := by unfold splS; rw [mtS_no h]; exact spK_nil
theorem splS_len (a b : List Spc) (side : Int) : (splS a b side).length ≤ a.length := by
  refine Nat.le_trans (spK_len _) ?_
  rw [List.length_map]; exact mtS_len a b side
/-- the error of Lumps, and the lumps -/
def errL (a b : List Spc) (side : Int) : Int := if errC a b ≠ 0 then errC a b else errP b a side
def lmpS (a b : List Spc) (side : Int) : List Int := if errC a b ≠ 0 then [] else splS b a side
end Go.Fw

/- Chapter 18: the reference's couples. Plain. -/
namespace Go.Fw
open Go Go.RowKit
abbrev Cpl := Int × Pr
abbrev cc (c : Cpl) : List Value := [.int .i64 c.1, .int .i64 c.2.1, .int .i64 c.2.2]
abbrev cv (c : Cpl) : Value := .agg #[.int .i64 c.1, .int .i64 c.2.1, .int .i64 c.2.2]
def dC : Cpl := (0, 0, 0)
theorem cc_len (c : Cpl) : (cc c).length = 3 := rfl
theorem allOne_cc (c : Cpl) : AllOne (cc c) := AllOne.cons rfl (AllOne.cons rfl (AllOne.cons rfl AllOne.nil))
abbrev ccl : List Cpl → List Value := fcl cc
theorem ccl_app (l m : List Cpl) : ccl (l ++ m) = ccl l ++ ccl m := fcl_app l m
theorem ccl_len (l : List Cpl) : (ccl l).length = l.length * 3 := fcl_len cc_len l
theorem ccl_getA {l : List Cpl} {j : Nat} (h : j < l.length) (m : Nat) (v : Value) (hv : (cc (l.getD j dC))[m]? = some v) : (ccl l)[j * 3 + m]? = some v := fcl_getA cc_len h m v hv
theorem ccl_one {l : List Cpl} {j : Nat} (h : j < l.length) : (ccl l)[j * 3 + 0]? = some (.int .i64 (l.getD j dC).1) ∧ (ccl l)[j * 3 + 1]? = some (.int .i64 (l.getD j dC).2.1) ∧ (ccl l)[j * 3 + 2]? = some (.int .i64 (l.getD j dC).2.2) := ⟨ccl_getA h 0 _ rfl, ccl_getA h 1 _ rfl, ccl_getA h 2 _ rfl⟩
theorem allOne_ccl (l : List Cpl) : AllOne (ccl l) := allOne_fcl allOne_cc l
def insC : List Cpl → Cpl → List Cpl
  | [], c => [c]
  | x :: l, c => if x.1 < c.1 then x :: insC l c else c :: x :: l
theorem insC_len : ∀ (l : List Cpl) (c : Cpl), (insC l c).length = l.length + 1
  | [], _ => rfl
  | x :: l, c => by
    rw [insC]
    split
    · rw [List.length_cons, insC_len l, List.length_cons]
    · rfl
theorem insC_at : ∀ {l : List Cpl} {c : Cpl} {k : Nat}, k ≤ l.length → (∀ j, j < k → (l.getD j dC).1 < c.1) → (k < l.length → ¬ (l.getD k dC).1 < c.1) → insC l c = l.take k ++ [c] ++ l.drop k
  | [], c, k, hk, _, _ => by
    have : k = 0 := by simpa using hk
    subst this; rfl
  | x :: l, c, 0, _, _, hs => by
    have h : ¬ x.1 < c.1 := hs (Nat.zero_lt_succ _)
    rw [insC, if_neg h]; rfl
  | x :: l, c, k + 1, hk, hj, hs => by
    have h : x.1 < c.1 := hj 0 (Nat.zero_lt_succ _)
    rw [insC, if_pos h, insC_at (k := k) (by simpa using hk) (fun j h' => hj (j + 1) (by omega)) (fun h' => hs (by rw [List.length_cons]; omega))]
    rfl
/-- the couples, as the loops make them -/
def stepC (side : Int) (x : Spc) (r : List Cpl) (y : Spc) : List Cpl := if x.id = y.id then insC r (x.id, dieS x side, dieS y side) else r
def rowC (b : List Spc) (side : Int) (r : List Cpl) (x : Spc) : List Cpl := b.foldl (stepC side x) r
def cpS (a b : List Spc) (side : Int) : List Cpl := a.foldl (rowC b side) []
theorem foldl_takeS {β : Type} {f : β → Spc → β} {r : β} {l : List Spc} {i : Nat} (h : i < l.length) : (l.take (i + 1)).foldl f r = f ((l.take i).foldl f r) (l.getD i dS) := by
  rw [takeS_succ h, List.foldl_append]; rfl
theorem stepC_len (side : Int) (x : Spc) (r : List Cpl) (y : Spc) : (stepC side x r y).length ≤ r.length + 1 := by
  unfold stepC
  split
  · rw [insC_len]; exact Nat.le_refl _
  · omega
theorem rowC_one (side : Int) (x : Spc) : ∀ (b : List Spc) (r : List Cpl), (idsS b).Nodup → rowC b side r x = if (findS b x.id).isSome = true then insC r (x.id, dieS x side, dieS ((findS b x.id).getD dS) side) else r
  | [], r, _ => by simp [rowC, findS]
  | y :: b, r, hn => by
    have hn' := List.nodup_cons.1 hn
    unfold rowC
    rw [List.foldl_cons]
    unfold stepC
    unfold findS
    rw [List.find?_cons]
    by_cases h : x.id = y.id
    · rw [if_pos h]
      have h2 : decide (y.id = x.id) = true := decide_eq_true h.symm
      rw [h2]
      have ih := rowC_one side x b (insC r (x.id, dieS x side, dieS y side)) hn'.2
      have hno : findS b x.id = none := by
        unfold findS
        rw [List.find?_eq_none]
        intro s hs e
        exact hn'.1 (by show y.id ∈ _; rw [← h, ← of_decide_eq_true e]; exact List.mem_map.2 ⟨s, hs, rfl⟩)
      rw [hno] at ih
      unfold rowC stepC at ih
      rw [ih]
      simp
    · rw [if_neg h]
      have h2 : decide (y.id = x.id) = false := decide_eq_false fun e => h e.symm
      rw [h2]
      exact rowC_one side x b r hn'.2
def insI : List Int → Int → List Int
  | [], c => [c]
  | x :: l, c => if x < c then x :: insI l c else c :: x :: l
theorem insC_map (g : Int → Pr) : ∀ (M : List Int) (x : Int), insC (M.map fun y => (y, g y)) (x, g x) = (insI M x).map fun y => (y, g y)
  | [], _ => rfl
  | y :: M, x => by
    rw [List.map_cons, insC, insI]
    by_cases h : y < x
    · rw [if_pos h, if_pos h, insC_map g M x]; rfl
    · rw [if_neg h, if_neg h]; rfl
theorem insI_perm : ∀ (M : List Int) (x : Int), (insI M x).Perm (x :: M)
  | [], _ => List.Perm.refl _
  | y :: M, x => by
    rw [insI]
    split
    · exact ((insI_perm M x).cons y).trans (List.Perm.swap x y M)
    · exact List.Perm.refl _
theorem insI_mono : ∀ {M : List Int} {x : Int}, M.Pairwise (· ≤ ·) → (insI M x).Pairwise (· ≤ ·)
  | [], _, _ => List.pairwise_singleton _ _
  | y :: M, x, h => by
    have h' := List.pairwise_cons.1 h
    rw [insI]
    split
    · rename_i hy
      refine List.pairwise_cons.2 ⟨fun z hz => ?_, insI_mono h'.2⟩
      rcases List.mem_cons.1 ((insI_perm M x).mem_iff.1 hz) with rfl | hz
      · omega
      · exact h'.1 z hz
    · rename_i hy
      refine List.pairwise_cons.2 ⟨fun z hz => ?_, h⟩
      rcases List.mem_cons.1 hz with rfl | hz
      · omega
      · have := h'.1 z hz; omega
theorem foldl_insI (L : List Int) : L.foldl insI [] = srtI L := by
  have key : ∀ (L M : List Int), M.Pairwise (· ≤ ·) → (L.foldl insI M).Pairwise (· ≤ ·) ∧ (L.foldl insI M).Perm (L ++ M) := by
    intro L
    induction L with
    | nil => exact fun M h => ⟨h, List.Perm.refl _⟩
    | cons x L ih =>
      intro M h
      obtain ⟨h1, h2⟩ := ih (insI M x) (insI_mono h)
      exact ⟨h1, h2.trans (((insI_perm M x).append_left L).trans List.perm_middle)⟩
  obtain ⟨h1, h2⟩ := key L [] List.Pairwise.nil
  rw [List.append_nil] at h2
  exact (h2.trans (srtI_perm L).symm).eq_of_pairwise (fun _ _ _ _ h1 h2 => Int.le_antisymm h1 h2) h1 (srtI_mono L)
theorem foldl_insC (g : Int → Pr) : ∀ (L M : List Int), (L.map fun y => (y, g y)).foldl insC (M.map fun y => (y, g y)) = (L.foldl insI M).map fun y => (y, g y)
  | [], _ => rfl
  | x :: L, M => by rw [List.map_cons, List.foldl_cons, insC_map, foldl_insC g L, List.foldl_cons]
theorem errC_ids {a b : List Spc} (h : errC a b = 0) : (idsS a).Nodup ∧ (idsS b).Nodup := by
  have key : ∀ l : List Spc, errS l = 0 → (idsS l).Nodup := fun l hl => by
    unfold errS at hl
    split at hl
    · cases hl
    · split at hl
      · cases hl
      · split at hl
        · assumption
        · cases hl
  unfold errC at h
  split at h
  · contradiction
  · rename_i h2; exact ⟨key a (Classical.not_not.1 h2), key b h⟩
theorem findS_self {a : List Spc} (hn : (idsS a).Nodup) {x : Spc} (hx : x ∈ a) : findS a x.id = some x := by
  induction a with
  | nil => cases hx
  | cons y a ih =>
    have hn' := List.nodup_cons.1 hn
    unfold findS
    rw [List.find?_cons]
    rcases List.mem_cons.1 hx with rfl | hx
    · rw [decide_eq_true rfl]
    · have hne : y.id ≠ x.id := fun e => hn'.1 (by show y.id ∈ _; rw [e]; exact List.mem_map.2 ⟨x, hx, rfl⟩)
      rw [decide_eq_false hne]
      exact ih hn'.2 hx
theorem cpS_eq {a b : List Spc} {side : Int} (h : errC a b = 0) : cpS a b side = (comS a b).map fun x => (x, cplF a b side x) := by
  obtain ⟨ha, hb⟩ := errC_ids h
  rw [comS_yes h, ← foldl_insI, ← foldl_insC (cplF a b side)]
  unfold cpS
  have key : ∀ (l : List Spc) (r : List Cpl), (∀ x ∈ l, x ∈ a) → l.foldl (rowC b side) r = (((idsS l).filter fun x => (findS b x).isSome).map fun y => (y, cplF a b side y)).foldl insC r := by
    intro l
    induction l with
    | nil => exact fun _ _ => rfl
    | cons x l ih =>
      intro r hl
      rw [List.foldl_cons, rowC_one side x b r hb, ih _ fun y hy => hl y (List.mem_cons_of_mem _ hy)]
      unfold idsS
      rw [List.map_cons, List.filter_cons]
      have hx := findS_self ha (hl x List.mem_cons_self)
      by_cases hs : (findS b x.id).isSome = true
      · rw [if_pos hs, if_pos hs, List.map_cons, List.foldl_cons]
        congr 2
        unfold cplF
        rw [hx]; rfl
      · rw [if_neg hs, if_neg hs]
  exact key a [] fun x hx => hx
theorem cpS_pr {a b : List Spc} {side : Int} (h : errP a b side = 0) : (cpS a b side).map (fun c : Cpl => c.2) = prsS a b side := by
  have hc : errC a b = 0 := by
    unfold errP at h
    split at h
    · contradiction
    · rename_i h2; exact Classical.not_not.1 h2
  rw [cpS_eq hc, prsS_yes h, List.map_map]; rfl
theorem cpS_ids {a b : List Spc} {side : Int} (h : errC a b = 0) : (cpS a b side).map (fun c : Cpl => c.1) = comS a b := by
  rw [cpS_eq h, List.map_map]
  exact (List.map_congr_left fun x _ => rfl).trans (List.map_id _)
theorem cpS_len {a b : List Spc} {side : Int} (h : errC a b = 0) : (cpS a b side).length ≤ a.length := by
  rw [cpS_eq h, List.length_map]; exact comS_len a b
theorem lenC_case (l : List Cpl) (k : Nat) (c : Cpl) : (k < l.length ∧ (l.getD k dC).1 < c.1) ∨ (k < l.length ∧ ¬ (l.getD k dC).1 < c.1) ∨ ¬ k < l.length := by
  by_cases h : k < l.length
  · by_cases h2 : (l.getD k dC).1 < c.1
    · exact .inl ⟨h, h2⟩
    · exact .inr (.inl ⟨h, h2⟩)
  · exact .inr (.inr h)
end Go.Fw

/- Chapter 18: the reference's lists. Plain. -/
namespace Go.Fw
open Go Go.RowKit
theorem mtCases (r : List Pr) (q : Nat) (p : Pr) : (q < r.length ∧ (r.getD q dP).1 < p.1) ∨ (q < r.length ∧ ¬ (r.getD q dP).1 < p.1 ∧ (r.getD q dP).1 = p.1 ∧ (r.getD q dP).2 < p.2) ∨
    (q < r.length ∧ ¬ (r.getD q dP).1 < p.1 ∧ (r.getD q dP).1 = p.1 ∧ ¬ (r.getD q dP).2 < p.2) ∨ (q < r.length ∧ ¬ (r.getD q dP).1 < p.1 ∧ ¬ (r.getD q dP).1 = p.1) ∨ ¬ q < r.length := by
  by_cases h : q < r.length
  · by_cases h1 : (r.getD q dP).1 < p.1
    · exact .inl ⟨h, h1⟩
    · by_cases h2 : (r.getD q dP).1 = p.1
      · by_cases h3 : (r.getD q dP).2 < p.2
        · exact .inr (.inl ⟨h, h1, h2, h3⟩)
        · exact .inr (.inr (.inl ⟨h, h1, h2, h3⟩))
      · exact .inr (.inr (.inr (.inl ⟨h, h1, h2⟩)))
  · exact .inr (.inr (.inr (.inr h)))
theorem errL_eq (a b : List Spc) (side : Int) : errL a b side = errP a b side := by
  unfold errL
  by_cases h : errC a b ≠ 0
  · rw [if_pos h, errP_c h]
  · rw [if_neg h]
    have h0 := Classical.not_not.1 h
    have h1 : errC b a = 0 := by
      unfold errC at h0 ⊢
      by_cases ha : errS a ≠ 0
      · rw [if_pos ha] at h0; exact absurd h0 ha
      · rw [if_neg ha] at h0
        rw [if_neg (by rw [h0]; simp)]
        exact Classical.not_not.1 ha
    unfold errP
    rw [if_neg h, if_neg (by rw [h1]; simp)]
theorem lmp_ref {a b : List Spc} {side : Int} (h : errP a b side ≠ 0) : lmpS a b side = [] := by
  unfold lmpS
  by_cases hc : errC a b ≠ 0
  · rw [if_pos hc]
  · rw [if_neg hc]
    have := errL_eq a b side
    unfold errL at this
    rw [if_neg hc] at this
    exact splS_no (by rw [this]; exact h)
theorem lmp_ok {a b : List Spc} {side : Int} (h : ¬ errP a b side ≠ 0) : lmpS a b side = splS b a side ∧ errP b a side = 0 := by
  have hc : ¬ errC a b ≠ 0 := fun hc => h (by rw [errP_c hc]; exact hc)
  have := errL_eq a b side
  unfold errL at this
  rw [if_neg hc] at this
  exact ⟨if_neg hc, by rw [this]; exact Classical.not_not.1 h⟩
/-- numbers with several partners, as the reference finds them -/
def rsp (l : List Pr) : Nat → List Int
  | 0 => []
  | i + 1 => if 0 < i ∧ (l.getD i dP).1 = (l.getD (i - 1) dP).1 ∧ (l.getD i dP).1 ∉ rsp l i then rsp l i ++ [(l.getD i dP).1] else rsp l i
theorem rsp_len (l : List Pr) : ∀ i, (rsp l i).length ≤ i
  | 0 => Nat.le_refl _
  | i + 1 => by
    have := rsp_len l i
    rw [rsp]
    split
    · rw [List.length_append, List.length_singleton]; omega
    · omega
theorem rsp_one (l : List Pr) : rsp l 1 = [] := by rw [rsp, if_neg (fun h => by omega)]; rfl
theorem mem_rsp {l : List Pr} {x : Int} : ∀ {i : Nat}, x ∈ rsp l i ↔ ∃ j, 0 < j ∧ j < i ∧ (l.getD j dP).1 = (l.getD (j - 1) dP).1 ∧ (l.getD j dP).1 = x
  | 0 => by simp [rsp]
  | i + 1 => by
    have ih := mem_rsp (l := l) (x := x) (i := i)
    rw [rsp]
    split
    · rename_i h
      rw [List.mem_append, List.mem_singleton, ih]
      constructor
      · rintro (⟨j, h0, hj, h1, h2⟩ | rfl)
        · exact ⟨j, h0, by omega, h1, h2⟩
        · exact ⟨i, h.1, by omega, h.2.1, rfl⟩
      · rintro ⟨j, h0, hj, h1, h2⟩
        by_cases e : j = i
        · subst e; exact .inr h2.symm
        · exact .inl ⟨j, h0, by omega, h1, h2⟩
    · rename_i h
      rw [ih]
      constructor
      · rintro ⟨j, h0, hj, h1, h2⟩; exact ⟨j, h0, by omega, h1, h2⟩
      · rintro ⟨j, h0, hj, h1, h2⟩
        by_cases e : j = i
        · subst e
          have hin : x ∈ rsp l j := by
            refine Classical.byContradiction fun hn => h ⟨h0, h1, by rw [h2]; exact hn⟩
          exact ih.1 hin
        · exact ⟨j, h0, by omega, h1, h2⟩
theorem asc_keys {l : List Pr} (h : Asc l) {i j : Nat} (hij : i ≤ j) (hj : j < l.length) : (l.getD i dP).1 ≤ (l.getD j dP).1 := by
  rcases Nat.lt_or_eq_of_le hij with hlt | rfl
  · have := List.pairwise_iff_getElem.1 h i j (by omega) hj hlt
    rw [List.getD_eq_getElem?_getD, List.getD_eq_getElem?_getD, List.getElem?_eq_getElem hj, List.getElem?_eq_getElem (by omega)]
    simp only [Option.getD_some]
    rcases this with h | h <;> omega
  · exact Int.le_refl _
theorem rsp_asc {l : List Pr} (h : Asc l) : ∀ {i : Nat}, i ≤ l.length → AscI (rsp l i)
  | 0, _ => List.Pairwise.nil
  | i + 1, hi => by
    have ih := rsp_asc h (i := i) (by omega)
    rw [rsp]
    split
    · rename_i hc
      refine List.pairwise_append.2 ⟨ih, List.pairwise_singleton _ _, fun x hx y hy => ?_⟩
      obtain rfl := List.mem_singleton.1 hy
      obtain ⟨j, _, hj, _, rfl⟩ := mem_rsp.1 hx
      have h1 := asc_keys h (show j ≤ i by omega) (by omega)
      have h2 : (l.getD j dP).1 ≠ (l.getD i dP).1 := fun e => hc.2.2 (by rw [← e]; exact hx)
      omega
    · exact ih
theorem count_two {x : Int} : ∀ {L : List Int}, 2 ≤ L.count x ↔ ∃ i j, i < j ∧ j < L.length ∧ L.getD i 0 = x ∧ L.getD j 0 = x
  | [] => by simp
  | y :: L => by
    have ih := count_two (x := x) (L := L)
    rw [List.count_cons]
    by_cases h : y = x
    · subst h
      simp only [beq_self_eq_true, if_true]
      constructor
      · intro h2
        have hm : y ∈ L := List.count_pos_iff.1 (by omega)
        obtain ⟨k, hk⟩ := List.mem_iff_getElem?.1 hm
        have hlt := (List.getElem?_eq_some_iff.1 hk).1
        exact ⟨0, k + 1, by omega, by rw [List.length_cons]; omega, rfl, by rw [List.getD_cons_succ, List.getD_eq_getElem?_getD, hk]; rfl⟩
      · rintro ⟨i, j, hij, hj, _, h2⟩
        obtain ⟨j', rfl⟩ : ∃ j', j = j' + 1 := ⟨j - 1, by omega⟩
        rw [List.getD_cons_succ] at h2
        rw [List.length_cons] at hj
        have hm : y ∈ L := by
          rw [← h2, List.getD_eq_getElem?_getD, List.getElem?_eq_getElem (show j' < L.length by omega)]
          exact List.getElem_mem _
        have := List.count_pos_iff.2 hm
        omega
    · have hb : (y == x) = false := by simpa using h
      rw [hb]
      simp only [Bool.false_eq_true, if_false, Nat.add_zero]
      rw [ih]
      constructor
      · rintro ⟨i, j, hij, hj, h1, h2⟩
        exact ⟨i + 1, j + 1, by omega, by rw [List.length_cons]; omega, by rw [List.getD_cons_succ]; exact h1, by rw [List.getD_cons_succ]; exact h2⟩
      · rintro ⟨i, j, hij, hj, h1, h2⟩
        obtain ⟨j', rfl⟩ : ∃ j', j = j' + 1 := ⟨j - 1, by omega⟩
        cases i with
        | zero => exact absurd h1 h
        | succ i =>
          rw [List.getD_cons_succ] at h1 h2
          rw [List.length_cons] at hj
          exact ⟨i, j', by omega, by omega, h1, h2⟩
theorem map_getD {l : List Pr} {j : Nat} (h : j < l.length) : (l.map (fun x : Pr => x.1)).getD j 0 = (l.getD j dP).1 := by
  rw [List.getD_eq_getElem?_getD, List.getElem?_map, getD_some h]; rfl
theorem rsp_spK {l : List Pr} (h : Asc l) : rsp l l.length = spK (l.map (fun x : Pr => x.1)) := by
  refine AscI.ext (rsp_asc h (Nat.le_refl _)) (spK_asc _) fun x => ?_
  rw [mem_rsp, mem_spK, count_two]
  constructor
  · rintro ⟨j, h0, hj, h1, h2⟩
    exact ⟨j - 1, j, by omega, by rw [List.length_map]; exact hj, by rw [map_getD (by omega), ← h1]; exact h2, by rw [map_getD hj]; exact h2⟩
  · rintro ⟨i, j, hij, hj, h1, h2⟩
    rw [List.length_map] at hj
    rw [map_getD (by omega)] at h1
    rw [map_getD hj] at h2
    have e1 := asc_keys h (show i ≤ i + 1 by omega) (by omega)
    have e2 := asc_keys h (show i + 1 ≤ j by omega) hj
    exact ⟨i + 1, by omega, by omega, by rw [Nat.add_sub_cancel]; omega, by omega⟩
theorem splS_ref {a b : List Spc} {side : Int} : rsp (mtS a b side) (mtS a b side).length = splS a b side := rsp_spK (asc_srt _)
theorem cpS_take {a b : List Spc} {side : Int} (i : Nat) (h : i < (cpS a b side).length) : ((cpS a b side).take (i + 1)).map (fun c : Cpl => c.2) = ((cpS a b side).take i).map (fun c : Cpl => c.2) ++ [((cpS a b side).getD i dC).2] := by
  have e : (cpS a b side)[i]? = some ((cpS a b side).getD i dC) := by rw [List.getD_eq_getElem?_getD, List.getElem?_eq_getElem h]; rfl
  rw [List.take_add_one, e]; simp
theorem cpS_takeI {a b : List Spc} {side : Int} (i : Nat) (h : i < (cpS a b side).length) : ((cpS a b side).take (i + 1)).map (fun c : Cpl => c.1) = ((cpS a b side).take i).map (fun c : Cpl => c.1) ++ [((cpS a b side).getD i dC).1] := by
  have e : (cpS a b side)[i]? = some ((cpS a b side).getD i dC) := by rw [List.getD_eq_getElem?_getD, List.getElem?_eq_getElem h]; rfl
  rw [List.take_add_one, e]; simp
theorem errP_errC {a b : List Spc} {side : Int} (h : ¬ errP a b side ≠ 0) : errC a b = 0 := Classical.byContradiction fun hc => h (by rw [errP_c hc]; exact hc)
theorem rsp_yes {l : List Pr} {i : Nat} (h : 0 < i ∧ (l.getD i dP).1 = (l.getD (i - 1) dP).1 ∧ (l.getD i dP).1 ∉ rsp l i) : rsp l (i + 1) = rsp l i ++ [(l.getD i dP).1] := by rw [rsp, if_pos h]
theorem rsp_no {l : List Pr} {i : Nat} (h : ¬ (0 < i ∧ (l.getD i dP).1 = (l.getD (i - 1) dP).1 ∧ (l.getD i dP).1 ∉ rsp l i)) : rsp l (i + 1) = rsp l i := by rw [rsp, if_neg h]
end Go.Fw
namespace Go.Fw
open Go Go.RowKit
theorem rsp_end {l : List Pr} {i : Nat} (h : i ≤ l.length ∨ i = 1) (hi : ¬ i < l.length) : rsp l i = rsp l l.length := by
  rcases h with h | h
  · rw [show i = l.length by omega]
  · subst h
    rcases Nat.eq_zero_or_pos l.length with h0 | h0
    · rw [h0, rsp_one]; rfl
    · rw [show l.length = 1 by omega]
theorem rspCases (l : List Pr) (i : Nat) : ((l.getD i dP).1 = (l.getD (i - 1) dP).1 ∧ (l.getD i dP).1 ∈ rsp l i) ∨ ((l.getD i dP).1 = (l.getD (i - 1) dP).1 ∧ (l.getD i dP).1 ∉ rsp l i) ∨ ¬ (l.getD i dP).1 = (l.getD (i - 1) dP).1 := by
  by_cases h : (l.getD i dP).1 = (l.getD (i - 1) dP).1
  · by_cases h2 : (l.getD i dP).1 ∈ rsp l i
    · exact .inl ⟨h, h2⟩
    · exact .inr (.inl ⟨h, h2⟩)
  · exact .inr (.inr h)
end Go.Fw

/- Chapter 18: the reference's search. Plain. -/
namespace Go.Fw
open Go Go.RowKit
theorem first_hit {l m : List Pr} {i : Nat} (hl : i < l.length) (hm : i < m.length) (hc : cmpLP l m = cmpLP (l.drop i) (m.drop i)) (hne : l.getD i dP ≠ m.getD i dP) : ltL l m ↔ ltP (l.getD i dP) (m.getD i dP) := by
  unfold ltL
  rw [hc, cmpLP_hit hl hm (fun e => hne (cmpPr_zero'.1 e)), cmpPr_neg]
theorem first_end {l m : List Pr} {i : Nat} (hi : i ≤ l.length) (hj : i ≤ m.length) (h : ¬ (i < l.length ∧ i < m.length)) (hc : cmpLP l m = cmpLP (l.drop i) (m.drop i)) : ltL l m ↔ l.length < m.length := by
  unfold ltL
  rw [hc]
  by_cases h1 : i < l.length
  · have h2 : m.length ≤ i := by omega
    rw [cmpLP_long h1 h2]
    exact ⟨fun h => absurd h (by decide), fun h => by omega⟩
  · by_cases h2 : i < m.length
    · rw [cmpLP_short (by omega) h2]
      exact ⟨fun _ => by omega, fun _ => by decide⟩
    · rw [cmpLP_same (by omega) (by omega)]
      exact ⟨fun h => absurd h (by decide), fun h => by omega⟩
theorem ltP4 (p q : Pr) : (p.1 < q.1) ∨ (¬ p.1 < q.1 ∧ p.1 = q.1 ∧ p.2 < q.2) ∨ (¬ p.1 < q.1 ∧ p.1 = q.1 ∧ ¬ p.2 < q.2) ∨ (¬ p.1 < q.1 ∧ ¬ p.1 = q.1) := by
  by_cases h1 : p.1 < q.1
  · exact .inl h1
  · by_cases h2 : p.1 = q.1
    · by_cases h3 : p.2 < q.2
      · exact .inr (.inl ⟨h1, h2, h3⟩)
      · exact .inr (.inr (.inl ⟨h1, h2, h3⟩))
    · exact .inr (.inr (.inr ⟨h1, h2⟩))
/-! ## Counting both ways -/
theorem sumW_add (f g : Pr → Int) : ∀ t : List Pr, sumW (fun p => f p + g p) t = sumW f t + sumW g t
  | [] => rfl
  | p :: t => by rw [sumW, sumW, sumW, sumW_add f g t]; omega
theorem sumW_zero : ∀ t : List Pr, sumW (fun _ => 0) t = 0
  | [] => rfl
  | p :: t => by rw [sumW, sumW_zero t]; rfl
theorem sumW_ind (q : Pr) : ∀ t : List Pr, sumW (fun p => if q = p then 1 else 0) t = (t.count q : Int)
  | [] => rfl
  | p :: t => by
    rw [sumW, sumW_ind q t, List.count_cons]
    by_cases h : q = p
    · subst h; simp; omega
    · have h2 : (p == q) = false := by simpa using fun e : p = q => h e.symm
      rw [if_neg h, h2]; simp
theorem sumW_congr {f g : Pr → Int} (h : ∀ p, f p = g p) (t : List Pr) : sumW f t = sumW g t := by
  rw [show f = g from funext h]
theorem sum_both (t : List Pr) : ∀ L : List Pr, sumW (fun p => (L.count p : Int)) t = (L.map fun q => (t.count q : Int)).sum
  | [] => by simpa using sumW_zero t
  | q :: L => by
    rw [List.map_cons, List.sum_cons, ← sum_both t L, ← sumW_ind q t, ← sumW_add]
    refine sumW_congr (fun p => ?_) t
    rw [List.count_cons]
    by_cases h : q = p
    · subst h; simp; omega
    · have h2 : (q == p) = false := by simpa using h
      rw [if_neg h, h2]; simp
/-- how many couples are in a list of pairs, up to a place -/
def nC (l : List Cpl) (cur : List Pr) (i : Nat) : Int := ((l.take i).map fun c : Cpl => (cur.count c.2 : Int)).sum
theorem nC_zero (l : List Cpl) (cur : List Pr) : nC l cur 0 = 0 := rfl
theorem nC_succ {l : List Cpl} {cur : List Pr} {i : Nat} (h : i < l.length) : nC l cur (i + 1) = nC l cur i + (cur.count (l.getD i dC).2 : Int) := by
  unfold nC
  have e : l[i]? = some (l.getD i dC) := by rw [List.getD_eq_getElem?_getD, List.getElem?_eq_getElem h]; rfl
  rw [List.take_add_one, e, List.map_append, List.sum_append]; simp
theorem nC_all {l : List Cpl} {cur : List Pr} : nC l cur l.length = sumW (wtP (l.map (fun c : Cpl => c.2))) cur := by
  unfold nC
  rw [List.take_length]
  have h := sum_both cur (l.map (fun c : Cpl => c.2))
  rw [List.map_map] at h
  refine Eq.trans h.symm (sumW_congr (fun p => ?_) cur)
  show _ = getM 0 p (cntM _)
  rw [cntM_get]
theorem nC_in (l : List Cpl) (cur : List Pr) : ∀ i, i ≤ l.length → 0 ≤ nC l cur i ∧ nC l cur i ≤ i * cur.length
  | 0, _ => by rw [nC_zero]; simp
  | i + 1, h => by
    have ih := nC_in l cur i (by omega)
    have hc := List.count_le_length (a := (l.getD i dC).2) (l := cur)
    rw [nC_succ (by omega), Int.natCast_add, Int.add_mul]
    omega
theorem count_take {cur : List Pr} {k : Nat} (h : k < cur.length) (x : Pr) : (cur.take (k + 1)).count x = (cur.take k).count x + if x = cur.getD k dP then 1 else 0 := by
  rw [takeP_succ h, List.count_append, List.count_singleton]
  by_cases e : x = cur.getD k dP
  · rw [if_pos e, e]; simp
  · have h2 : (cur.getD k dP == x) = false := by simpa using fun e' : cur.getD k dP = x => e e'.symm
    rw [if_neg e, h2]; simp
/-! ## The state of the search -/
abbrev bv0 (b : Option (List Pr)) : List Pr := b.getD []
abbrev bn (W : Pr → Int) (b : Option (List Pr)) : Int := match b with | none => 0 | some x => sumW W x
abbrev tv (W : Pr → Int) (ad : Option Addr) (c : Nat) (b : Option (List Pr)) : Value := .agg #[.slice ad (bv0 b).length c, .int .i64 (bn W b), .bool b.isSome]
abbrev tcs (W : Pr → Int) (ad : Option Addr) (c : Nat) (b : Option (List Pr)) : List Value := [.slice ad (bv0 b).length c, .int .i64 (bn W b), .bool b.isSome]
theorem upO_len {W : Pr → Int} {K : Nat} {b : Option (List Pr)} {x : List Pr} (hx : x.length ≤ K) (hb : (bv0 b).length ≤ K) : (bv0 (upO W b x)).length ≤ K := by
  cases b with
  | none => exact hx
  | some y => exact upB_len hx hb
theorem seB_len {W : Pr → Int} (K : Nat) : ∀ (r t : List Pr) (b : Option (List Pr)), t.length + r.length ≤ K → (bv0 b).length ≤ K → (bv0 (seB W r t b)).length ≤ K
  | [], t, b, h, hb => upO_len (by simpa using h) hb
  | p :: r, t, b, h, hb => by
    rw [List.length_cons] at h
    rw [seB]
    refine seB_len K r t _ (by omega) ?_
    by_cases hc : clashP t p = true
    · rw [if_pos hc]; exact hb
    · rw [if_neg hc]
      exact seB_len K r _ _ (by rw [List.length_append, List.length_singleton]; omega) hb
theorem seB_end {W : Pr → Int} {m t : List Pr} {b : Option (List Pr)} {i : Nat} (h : m.length ≤ i) : seB W (m.drop i) t b = upO W b t := by rw [List.drop_of_length_le h, seB]
theorem seB_step {W : Pr → Int} {m t : List Pr} {b : Option (List Pr)} {i : Nat} (h : i < m.length) : seB W (m.drop i) t b = seB W (m.drop (i + 1)) t (if clashP t (m.getD i dP) = true then b else seB W (m.drop (i + 1)) (t ++ [m.getD i dP]) b) := by rw [drop_at h, seB]
theorem upO_none {W : Pr → Int} {x : List Pr} : upO W none x = some x := rfl
theorem upO_yes {W : Pr → Int} {b x : List Pr} (h : btS W x b) : upO W (some b) x = some x := by show some (upB W b x) = _; unfold upB; rw [if_pos h]
theorem upO_no {W : Pr → Int} {b x : List Pr} (h : ¬ btS W x b) : upO W (some b) x = some b := by show some (upB W b x) = _; unfold upB; rw [if_neg h]
theorem clash_take {cur : List Pr} {i : Nat} (h : i < cur.length) (p : Pr) : clashP (cur.take (i + 1)) p = (clashP (cur.take i) p || decide ((cur.getD i dP).1 = p.1 ∨ (cur.getD i dP).2 = p.2)) := by
  unfold clashP
  rw [takeP_succ h, List.any_append]; simp
theorem freeCases (f : Bool) (p q : Pr) : (f = false) ∨ (f = true ∧ ¬ p.1 ≠ q.1) ∨ (f = true ∧ p.1 ≠ q.1 ∧ ¬ p.2 ≠ q.2) ∨ (f = true ∧ p.1 ≠ q.1 ∧ p.2 ≠ q.2) := by
  cases f with
  | false => exact .inl rfl
  | true =>
    by_cases h1 : p.1 ≠ q.1
    · by_cases h2 : p.2 ≠ q.2
      · exact .inr (.inr (.inr ⟨rfl, h1, h2⟩))
      · exact .inr (.inr (.inl ⟨rfl, h1, h2⟩))
    · exact .inr (.inl ⟨rfl, h1⟩)
theorem bothCases (p q : Pr) : (p.1 = q.1 ∧ p.2 = q.2) ∨ (p.1 = q.1 ∧ ¬ p.2 = q.2) ∨ ¬ p.1 = q.1 := by
  by_cases h1 : p.1 = q.1
  · by_cases h2 : p.2 = q.2
    · exact .inl ⟨h1, h2⟩
    · exact .inr (.inl ⟨h1, h2⟩)
  · exact .inr (.inr h1)
end Go.Fw
namespace Go.Fw
theorem freeN1 {a b : Bool} (h : false = !a) : false = !(a || b) := by cases a <;> simp_all
theorem freeN2 {a : Bool} {p : Prop} [Decidable p] (h : p) : false = !(a || decide p) := by rw [decide_eq_true h]; simp
theorem freeY {a : Bool} {p : Prop} [Decidable p] (h : true = !a) (hp : ¬ p) : true = !(a || decide p) := by rw [decide_eq_false hp]; simpa using h
theorem free_no {a : Bool} {f : Bool} (h : f = !a) (hf : f = true) : ¬ a = true := by subst h; simpa using hf
theorem free_yes {a : Bool} {f : Bool} (h : f = !a) (hf : f = false) : a = true := by subst h; simpa using hf
end Go.Fw
namespace Go.Fw
theorem dedI_yes {L : List Int} {x : Int} (h : x ∈ dedI L) : dedI (L ++ [x]) = dedI L := by rw [dedI_snoc]; unfold addI; rw [if_pos h]
theorem dedI_no {L : List Int} {x : Int} (h : ¬ x ∈ dedI L) : dedI (L ++ [x]) = dedI L ++ [x] := by rw [dedI_snoc]; unfold addI; rw [if_neg h]
theorem ded_mt {a b : List Spc} {side : Int} (f : Pr → Int) : (dedI ((mtS a b side).map f)).length = ndI ((prsS a b side).map f) := ndI_ded fun x => by
  rw [List.mem_map, List.mem_map]
  constructor
  · rintro ⟨p, hp, e⟩; exact ⟨p, mem_srt.1 hp, e⟩
  · rintro ⟨p, hp, e⟩; exact ⟨p, mem_srt.2 hp, e⟩
theorem sea_best {a b : List Spc} {side : Int} (h : errP a b side = 0) : seB (wtP ((cpS a b side).map (fun c : Cpl => c.2))) ((mtS a b side).drop 0) [] none = some (bstL (prsS a b side)) := by
  rw [List.drop_zero, seB_best, cpS_pr h]; rfl
end Go.Fw

/- Chapter 18: the fixed calls' answers. Plain. -/
namespace Go.Fw
open Go Go.RowKit
abbrev coinS (i o : Int) : Spc := ⟨i, o, 1, 1, 1, 0, 1⟩
def fewN (n : Nat) : Prop := n ≤ 14 ∨ 64 < n ∧ n < 100
instance (n : Nat) : Decidable (fewN n) := inferInstanceAs (Decidable (_ ∨ _))
def A18 : List Spc := [coinS 1 1, coinS 2 1, coinS 3 2, coinS 4 3]
def B18 : List Spc := [coinS 1 10, coinS 2 11, coinS 3 11, coinS 9 10]
theorem aw_err : errC A18 B18 = 0 := by decide +kernel
theorem aw_com : comS A18 B18 = [1, 2, 3] := by
  rw [comS_yes aw_err, show comI A18 B18 = [1, 2, 3] from by decide +kernel]
  exact List.mergeSort_of_pairwise (by decide)
theorem aw_errP : errP A18 B18 0 = 0 := by unfold errP; rw [aw_err]; decide
theorem aw_prs : prsS A18 B18 0 = [(1, 10), (1, 11), (2, 11)] := by rw [prsS_yes aw_errP, aw_com]; decide +kernel
theorem aw_errB : errB A18 B18 0 = 0 := by
  refine errB_0 (by rw [aw_errP]; decide) ?_ ?_
  · refine Nat.le_trans (ndI_le _) ?_
    rw [aw_prs]; decide
  · refine Nat.le_trans (ndI_le _) ?_
    rw [aw_prs]; decide
theorem aw_bst : bstS A18 B18 0 = [(1, 10), (2, 11)] := by rw [(bst_yes aw_errB).1, aw_prs]; decide +kernel
theorem aw_num : bstN A18 B18 0 = 2 := by rw [(bst_yes aw_errB).2, aw_prs]; decide +kernel
end Go.Fw
namespace Go.Fw
theorem bstS_len (a b : List Spc) (side : Int) : (bstS a b side).length ≤ a.length := by
  unfold bstS
  split
  · exact Nat.le_trans (bstL_len _) (prsS_len a b side)
  · exact Nat.zero_le _
theorem fewN_le {n : Nat} (h : fewN n) : n ≤ 100 := by unfold fewN at h; omega
theorem lmpS_len (a b : List Spc) (side : Int) : (lmpS a b side).length ≤ b.length := by
  unfold lmpS
  split
  · exact Nat.zero_le _
  · exact splS_len b a side
end Go.Fw
