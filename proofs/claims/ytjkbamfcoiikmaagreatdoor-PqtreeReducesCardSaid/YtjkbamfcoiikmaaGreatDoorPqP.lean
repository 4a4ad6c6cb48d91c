/- Chapter 28: trees after rows: what is known of their orders; small facts for the statements. -/
import Derived.Test.YtjkbamfcoiikmaaGreatDoorPqO
import Derived.Test.YtjkbamfcoiikmaaGreatDoorPqFJ
namespace Go.Fw.Pq
open Go Go.RowKit Go.Fw
/-! ## A run of rows -/
abbrev TS := PT × List (List Int)
def stp (n : Nat) (s : TS) (L : List Int) : TS := (redT n s.1 L, redW n s.1 s.2 L)
def runT (n : Nat) (s : TS) (l : List (List Int)) : TS := l.foldl (stp n) s
theorem runT_snoc (n : Nat) (s : TS) (l : List (List Int)) (L : List Int) : runT n s (l ++ [L]) = stp n (runT n s l) L := by unfold runT; rw [List.foldl_append]; rfl
theorem Nxt.stp {n : Nat} {s : TS} {L : List Int} {e : Int} {t' : PT} {W' : List (List Int)} (h : Nxt n s.1 s.2 L e t' W') : (t', W') = Pq.stp n s L := by rw [h.ht, h.hw]; rfl
def bT (n : Nat) (l : List (List Int)) : TS := runT n (newT n, []) l
theorem bT_snoc (n : Nat) (l : List (List Int)) (L : List Int) : bT n (l ++ [L]) = stp n (bT n l) L := runT_snoc _ _ _ _
theorem Rls_take {l : List Rw} {i : Nat} (h : i < l.length) : Rls (l.take (i + 1)) = Rls (l.take i) ++ [(l.getD i dR).L] := by
  unfold Rls; rw [takeR_succ h, List.map_append]; rfl
/-- The rows that are accepted. -/
def accS (n : Nat) (l : List Rw) : PT × List Rw := l.foldl (fun s r => (redT n s.1 r.L, if redE n s.1 r.L = 0 then s.2 ++ [r] else s.2)) (newT n, [])
theorem accS_snoc (n : Nat) (l : List Rw) (r : Rw) : accS n (l ++ [r]) = (redT n (accS n l).1 r.L, if redE n (accS n l).1 r.L = 0 then (accS n l).2 ++ [r] else (accS n l).2) := by unfold accS; rw [List.foldl_append]; rfl
theorem rw_ind {p : List Rw → Prop} (h0 : p []) (h1 : ∀ l k, p l → p (l ++ [k])) (l : List Rw) : p l := by
  have : ∀ m : List Rw, p m.reverse := fun m => by
    induction m with
    | nil => exact h0
    | cons k m ih => rw [List.reverse_cons]; exact h1 _ _ ih
  simpa using this l.reverse
theorem accS_bT (n : Nat) (l : List Rw) : (accS n l).1 = (bT n (Rls l)).1 := by
  induction l using rw_ind with
  | h0 => rfl
  | h1 l k ih => rw [accS_snoc, show Rls (l ++ [k]) = Rls l ++ [k.L] from List.map_append, bT_snoc, ih]; rfl
theorem accS_mem {n : Nat} {l : List Rw} : ∀ r ∈ (accS n l).2, r ∈ l := by
  induction l using rw_ind with
  | h0 => intro r hr; cases hr
  | h1 l k ih =>
    rw [accS_snoc]
    show ∀ r ∈ (if redE n (accS n l).1 k.L = 0 then (accS n l).2 ++ [k] else (accS n l).2), r ∈ l ++ [k]
    split
    · intro r hr
      rcases List.mem_append.1 hr with hr | hr
      · exact List.mem_append_left _ (ih r hr)
      · exact List.mem_append_right _ hr
    · exact fun r hr => List.mem_append_left _ (ih r hr)
/-- A tree whose orders are those in which some rows stand together. -/
structure OrdOf (n : Nat) (t : PT) (S : List (List Nat)) : Prop where
  tn : Tn n t
  fr : ∀ l, Fr t l ↔ (l.Perm (List.range n) ∧ ∀ r ∈ S, Con r l)
theorem OrdOf.new {n : Nat} (h : 0 < n) : OrdOf n (newT n) [] := ⟨newT_Tn h, fun l => by rw [newT_Fr h]; exact ⟨fun h => ⟨h, fun _ hr => by cases hr⟩, fun h => h.1⟩⟩
theorem OrdOf.step {n : Nat} {t t' : PT} {S : List (List Nat)} {r : List Nat} (h : OrdOf n t S) (hr : ∀ c ∈ r, c < n) (e : redR r t = some t') : OrdOf n t' (S ++ [r]) := by
  refine ⟨h.tn.red hr e, fun l => ?_⟩
  have h1 := redR_ok h.tn hr l
  have h2 : Fr t' l ↔ Fr t l ∧ Con r l := by
    rw [h1, e]
    exact ⟨fun hl => ⟨t', rfl, hl⟩, fun ⟨u, eu, hu⟩ => by cases eu; exact hu⟩
  rw [h2, h.fr]
  constructor
  · rintro ⟨⟨hp, hc⟩, hcr⟩
    exact ⟨hp, fun _ hx => (List.mem_append.1 hx).elim (hc _) (fun h => by rw [List.mem_singleton.1 h]; exact hcr)⟩
  · rintro ⟨hp, hc⟩
    exact ⟨⟨hp, fun _ hx => hc _ (List.mem_append_left _ hx)⟩, hc r (List.mem_append_right _ List.mem_cons_self)⟩
theorem OrdOf.ok {n : Nat} {t : PT} {S : List (List Nat)} {r : List Nat} (h : OrdOf n t S) (hr : ∀ c ∈ r, c < n) {l : List Nat} (hl : Fr t l) (hc : Con r l) : ∃ t', redR r t = some t' := by
  obtain ⟨t', e, _⟩ := (redR_ok h.tn hr l).1 ⟨hl, hc⟩
  exact ⟨t', e⟩
theorem Tn.nodup {n : Nat} {t : PT} (h : Tn n t) : (Pq.lvs t).Nodup := h.lvs.nodup_iff.2 List.nodup_range
theorem Tn.lt {n : Nat} {t : PT} (h : Tn n t) : ∀ x ∈ Pq.lvs t, x < n := fun _ hx => List.mem_range.1 (h.lvs.mem_iff.1 hx)
theorem OrdOf.text {n : Nat} {t u : PT} {S S' : List (List Nat)} (h : OrdOf n t S) (h' : OrdOf n u S') (hm : ∀ r, r ∈ S ↔ r ∈ S') (d : Nat → List UInt8) : textT d t = textT d u ∧ cntT t = cntT u ∧ fstT t = fstT u := by
  have e : ∀ l, Fr t l ↔ Fr u l := fun l => by
    rw [h.fr, h'.fr]
    exact and_congr_right fun _ => ⟨fun g r hr => g r ((hm r).2 hr), fun g r hr => g r ((hm r).1 hr)⟩
  refine ⟨text_unique d h.tn.ok h.tn.nodup h'.tn.ok e, Nat.le_antisymm (cnt_le h.tn.ok h.tn.nodup fun l => (e l).1) (cnt_le h'.tn.ok h'.tn.nodup fun l => (e l).2), ?_⟩
  refine fst_unique h'.tn.ok h'.tn.nodup ((e _).1 (fst_least h.tn.ok h.tn.nodup).1) fun m hm' => (fst_least h.tn.ok h.tn.nodup).2 m ((e m).2 hm')
theorem redE_of {n : Nat} {t t' : PT} {L : List Int} (ha : ascR L n) (e : redR (nr L) t = some t') : redE n t L = 0 := by unfold redE; rw [if_pos ha, e]
theorem redT_of {n : Nat} {t t' : PT} {L : List Int} (ha : ascR L n) (e : redR (nr L) t = some t') : redT n t L = t' := by unfold redT; rw [if_pos ha, e]; rfl
theorem accS_if {n : Nat} {l : List Rw} {i : Nat} {t : PT} {W : List (List Int)} {R2 : List Rw} (hi : i < l.length) (hT : (t, W) = bT n (Rls (l.take i))) (h2 : (accS n (l.take i)).2 = R2) : (accS n (l.take (i + 1))).2 = if redE n t (l.getD i dR).L = 0 then R2 ++ [l.getD i dR] else R2 := by
  have h1 : (accS n (l.take i)).1 = t := by rw [accS_bT, ← hT]
  rw [takeR_succ hi, accS_snoc, h1, h2]
theorem bT_Tn {n : Nat} (hn : 0 < n) (l : List (List Int)) : Tn n (bT n l).1 := by
  have : ∀ m : List (List Int), Tn n (bT n m.reverse).1 := fun m => by
    induction m with
    | nil => exact newT_Tn hn
    | cons k m ih => rw [List.reverse_cons, bT_snoc]; exact ih.redT k
  simpa using this l.reverse
/-! ## What the statements ask first -/
def fewC (l : List Rw) : Prop := (∀ i, i < l.length → (l.getD i dR).L.length ≤ 30) ∧ l.length ≤ 14
instance (l : List Rw) : Decidable (fewC l) := by unfold fewC; infer_instance
theorem fewC.row {l : List Rw} (h : fewC l) {r : Rw} (hr : r ∈ l) : r.L.length ≤ 30 := by
  obtain ⟨i, hi, rfl⟩ := List.mem_iff_getElem.1 hr
  have := h.1 i hi
  rwa [List.getD_eq_getElem?_getD, List.getElem?_eq_getElem hi] at this
/-! ## Trees that are fed the rows of another one -/
structure AnyI (n : Nat) (rows : List Rw) (l0 : List Nat) (u : PT) (S : List (List Nat)) : Prop where
  ord : OrdOf n u S
  sub : ∀ r ∈ S, ∃ x ∈ rows, r = nr x.L
  fr : Fr u l0
theorem AnyI.step {n : Nat} {rows : List Rw} {l0 : List Nat} {u : PT} {S : List (List Nat)} (h : AnyI n rows l0 u S) (ha : ∀ x ∈ rows, ascR x.L n) (hc : ∀ x ∈ rows, Con (nr x.L) l0) {x : Rw} (hx : x ∈ rows) :
    redE n u x.L = 0 ∧ AnyI n rows l0 (redT n u x.L) (S ++ [nr x.L]) := by
  obtain ⟨t', e⟩ := h.ord.ok (nr_lt (ha x hx)) h.fr (hc x hx)
  have et : redT n u x.L = t' := by unfold redT; rw [if_pos (ha x hx), e]; rfl
  refine ⟨redE_of (ha x hx) e, ?_⟩
  rw [et]
  refine ⟨h.ord.step (nr_lt (ha x hx)) e, fun r hr => (List.mem_append.1 hr).elim (h.sub r) (fun h => ⟨x, hx, List.mem_singleton.1 h⟩), ?_⟩
  have := (redR_ok h.ord.tn (nr_lt (ha x hx)) l0).1 ⟨h.fr, hc x hx⟩
  obtain ⟨u', eu, hu⟩ := this
  rw [e] at eu; cases eu; exact hu
/-! ## Small numbers -/
theorem val_dropS {L : List Nat} {k : Nat} (h : k < L.length) : Nat9.val (L.drop k) = L.getD k 0 + 1000000000 * Nat9.val (L.drop (k + 1)) := by
  rw [List.drop_eq_getElem_cons h, List.getD_eq_getElem?_getD, List.getElem?_eq_getElem h]; rfl
theorem val_drop_le (L : List Nat) : ∀ k, Nat9.val (L.drop k) ≤ Nat9.val L
  | 0 => Nat.le_refl _
  | k + 1 => by
    have ih := val_drop_le L k
    by_cases h : k < L.length
    · rw [val_dropS h] at ih; omega
    · rw [List.drop_eq_nil_of_le (by omega)]; exact Nat.zero_le _
/-! ## The example -/
theorem dd_one {n : Nat} (h : n < 10) : dd n = [UInt8.ofNat (48 + n)] := by
  show Lib.decDigits n = _
  rw [Lib.decDigits, dif_pos h]
def ex0 : PT := .nd false [.leaf 0, .leaf 1, .leaf 2, .leaf 3]
def ex1 : PT := .nd false [.leaf 1, .leaf 3, .nd false [.leaf 0, .leaf 2]]
def ex2 : PT := .nd false [.leaf 1, .nd true [.leaf 0, .leaf 2, .leaf 3]]
theorem ex_new : newT 4 = ex0 := rfl
theorem ex_asc1 : ascR [0, 2] 4 := by decide
theorem ex_asc2 : ascR [2, 3] 4 := by decide
theorem ex_red1 : redR (nr [0, 2]) ex0 = some ex1 := rfl
theorem ex_red2 : redR (nr [2, 3]) ex1 = some ex2 := rfl
theorem ex_T0 : Tn 4 ex0 := newT_Tn (by decide)
theorem ex_T1 : Tn 4 ex1 := ex_T0.red (nr_lt ex_asc1) ex_red1
theorem ex_T2 : Tn 4 ex2 := ex_T1.red (nr_lt ex_asc2) ex_red2
theorem ex_leaf (n : Nat) (h : n < 10) : textT dd (.leaf n) = [UInt8.ofNat (48 + n)] := by rw [textT]; exact dd_one h
theorem ex_ok0 : ∀ k ∈ [PT.leaf 0, .leaf 1, .leaf 2, .leaf 3], Ok k := fun k hk => by
  simp only [List.mem_cons, List.not_mem_nil, or_false] at hk
  rcases hk with rfl | rfl | rfl | rfl <;> exact .leaf _
theorem ex_text0 : textT dd ex0 = [40, 48, 32, 49, 32, 50, 32, 51, 41] := by
  have h := KO.any (d := dd) (ks := [.leaf 0, .leaf 1, .leaf 2, .leaf 3]) ex_ok0 (by decide) (.refl _) (fun i j hij hj => (by decide : ∀ j, j < 4 → ∀ i, i < j → lst ([PT.leaf 0, .leaf 1, .leaf 2, .leaf 3].getD i default) ≤ lst ([PT.leaf 0, .leaf 1, .leaf 2, .leaf 3].getD j default)) j hj i hij)
  unfold KO at h
  unfold ex0
  rw [h]
  simp only [List.map_cons, List.map_nil, ex_leaf _ (show 0 < 10 by decide), ex_leaf _ (show 1 < 10 by decide), ex_leaf _ (show 2 < 10 by decide), ex_leaf _ (show 3 < 10 by decide)]
  rfl
theorem ex_textQ : textT dd (.nd true [.leaf 0, .leaf 2, .leaf 3]) = [91, 48, 32, 50, 32, 51, 93] := by
  have h := KO.line (d := dd) (ks := [.leaf 0, .leaf 2, .leaf 3]) (by simp)
  unfold KO at h
  rw [h, if_neg (by decide)]
  simp only [List.map_cons, List.map_nil, ex_leaf _ (show 0 < 10 by decide), ex_leaf _ (show 2 < 10 by decide), ex_leaf _ (show 3 < 10 by decide)]
  rfl
theorem ex_text2 : textT dd ex2 = [40, 91, 48, 32, 50, 32, 51, 93, 32, 49, 41] := by
  have h := KO.any (d := dd) (ks := [.leaf 1, .nd true [.leaf 0, .leaf 2, .leaf 3]]) (K := [.nd true [.leaf 0, .leaf 2, .leaf 3], .leaf 1]) (fun k hk => by
    simp only [List.mem_cons, List.not_mem_nil, or_false] at hk
    rcases hk with rfl | rfl
    · exact .leaf 1
    · exact .nd _ _ (by decide) (fun _ => by decide) fun k hk => by
        simp only [List.mem_cons, List.not_mem_nil, or_false] at hk
        rcases hk with rfl | rfl | rfl <;> exact .leaf _) (by decide) (.swap _ _ _) (fun i j hij hj => (by decide : ∀ j, j < 2 → ∀ i, i < j → lst ([PT.nd true [.leaf 0, .leaf 2, .leaf 3], .leaf 1].getD i default) ≤ lst ([PT.nd true [.leaf 0, .leaf 2, .leaf 3], .leaf 1].getD j default)) j hj i hij)
  unfold KO at h
  unfold ex2
  rw [h]
  simp only [List.map_cons, List.map_nil, ex_textQ, ex_leaf _ (show 1 < 10 by decide)]
  rfl
theorem ex_cnt : cntT ex2 = 4 := rfl
end Go.Fw.Pq
