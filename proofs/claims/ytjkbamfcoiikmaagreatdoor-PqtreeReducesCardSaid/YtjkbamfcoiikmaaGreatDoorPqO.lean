/- Chapter 28: the number of orders and the first order, as the loops over the kids make them. -/
import Derived.Test.YtjkbamfcoiikmaaGreatDoorPqN
import Derived.Test.YtjkbamfcoiikmaaGreatDoorPqFJ
namespace Go.Fw.Pq
open Go Go.RowKit Go.Fw Go.Nat9
def cntI (q : Bool) (l : List PT) : Nat := (if q then 1 else fct l.length) * cntL l
theorem cntL_snoc (k : PT) : ∀ l : List PT, cntL (l ++ [k]) = cntL l * cntT k
  | [] => by rw [List.nil_append, cntL]; exact Nat.mul_comm _ _
  | x :: l => by rw [List.cons_append, cntL, cntL_snoc k l, cntL, Nat.mul_assoc]
theorem cntI_nil (q : Bool) : cntI q [] = 1 := by cases q <;> rfl
theorem cntI_snoc (q : Bool) (l : List PT) (k : PT) : cntI q (l ++ [k]) = cntI q l * cntT k * (if q then 1 else l.length + 1) := by
  unfold cntI
  rw [cntL_snoc]
  cases q with
  | true => simp
  | false =>
    simp only [Bool.false_eq_true, if_false, List.length_append, List.length_singleton]
    rw [fct]
    simp only [Nat.mul_assoc, Nat.mul_comm, Nat.mul_left_comm]
theorem cntT_Q (ks : List PT) : cntT (.nd true ks) = cntI true ks * 2 := by rw [cntT]; unfold cntI; simp only [if_true]; omega
theorem cntT_P (ks : List PT) : cntT (.nd false ks) = cntI false ks := by rw [cntT]; rfl
theorem limbs_small {n : Nat} (h : n < 1000000000) : (limbsOf n).length ≤ 1 := limbsOf_len_of_lt (by simpa using h)
theorem snoc_ind {p : List PT → Prop} (h0 : p []) (h1 : ∀ l k, p l → p (l ++ [k])) (l : List PT) : p l := by
  have : ∀ m : List PT, p m.reverse := fun m => by
    induction m with
    | nil => exact h0
    | cons k m ih => rw [List.reverse_cons]; exact h1 _ _ ih
  simpa using this l.reverse
theorem cntI_limbs (q : Bool) (l : List PT) : l.length ≤ 1000 → (∀ k ∈ l, (limbsOf (cntT k)).length + 3 ≤ 5 * (lvs k).length) → (limbsOf (cntI q l)).length + 2 * l.length ≤ 1 + 5 * nl l := by
  induction l using snoc_ind with
  | h0 => intro _ _; rw [cntI_nil]; have := limbs_small (n := 1) (by decide); simp only [List.length_nil, nl_nil]; omega
  | h1 l k ih =>
    intro hl h
    rw [List.length_append, List.length_singleton] at hl ⊢
    have h1 := ih (by omega) fun x hx => h x (List.mem_append_left _ hx)
    have h2 := h k (List.mem_append_right _ List.mem_cons_self)
    have h3 := len_limbsOf_mul (cntI q l) (cntT k)
    rw [cntI_snoc, nl_app, nl_one]
    cases q with
    | true => rw [if_pos rfl, Nat.mul_one]; omega
    | false =>
      have h4 := len_limbsOf_mul (cntI false l * cntT k) (l.length + 1)
      have h5 := limbs_small (n := l.length + 1) (by omega)
      rw [if_neg Bool.false_ne_true]; omega
theorem cnt_limbs {t : PT} (h : Ok t) : (lvs t).length ≤ 1000 → (limbsOf (cntT t)).length + 3 ≤ 5 * (lvs t).length := by
  induction t using PT.ind with
  | h1 n => intro _; rw [cntT, lvs]; have := limbs_small (n := 1) (by decide); simp only [List.length_singleton]; omega
  | h2 q ks ih =>
    intro hL
    have hk := h.kids
    have h2 := h.two
    rw [lvs_nd] at *
    have hL' : nl ks ≤ 1000 := hL
    have hg := nl_ge hk
    have h1 := cntI_limbs q ks (by omega) fun k hk' => ih k hk' (hk k hk') (by have := nl_mem hk'; omega)
    show _ ≤ 5 * nl ks
    cases q with
    | true =>
      have h3 := h.three
      rw [cntT_Q]
      have := len_limbsOf_mul (cntI true ks) 2
      have := limbs_small (n := 2) (by decide)
      omega
    | false => rw [cntT_P]; omega
/-- How many, and how long, ahead of a kid. -/
structure CI (q : Bool) (ks : List AT) (i : Nat) (o : Nat) : Prop where
  eq : o = cntI q ((ks.take i).map er)
theorem CI.zero (q : Bool) (ks : List AT) : CI q ks 0 1 := ⟨by rw [List.take_zero]; exact (cntI_nil q).symm⟩
theorem CI.step {q : Bool} {ks : List AT} {i o : Nat} (h : CI q ks i o) (hi : i < ks.length) : CI q ks (i + 1) (o * cntT (er (ks.getD i default)) * (if q then 1 else i + 1)) := ⟨by
  rw [takeA_succ hi, List.map_append, List.map_singleton, cntI_snoc, ← h.eq, List.length_map, List.length_take, Nat.min_eq_left (by omega)]⟩
theorem CI.le {q : Bool} {ks : List AT} {i o : Nat} (h : CI q ks i o) (hl : nA ks ≤ 1000) (hk : ∀ k ∈ ks, Fit k) : (limbsOf o).length ≤ 6000 := by
  have hg := nA_ge hk
  have h1 := nA_le ks i
  have := cntI_limbs q ((ks.take i).map er) (by rw [List.length_map, List.length_take]; omega) fun k hk' => by
    obtain ⟨y, hy, rfl⟩ := List.mem_map.1 hk'
    have hm := List.mem_of_mem_take hy
    exact cnt_limbs (hk y hm).ok (by have := nA_mem hm; omega)
  rw [← h.eq] at this
  have e : nl ((ks.take i).map er) = nA (ks.take i) := rfl
  omega
theorem cnt_mk_Q {b n : Nat} {q : Bool} {ad : Option Addr} {cap : Nat} {ks : List AT} {o : Nat} (h : q = true) (hf : Fit (.mk b n q ad cap ks)) (ho : o = cntI q (ks.map er)) : cntT (er (.mk b n q ad cap ks)) = o * 2 := by
  subst h
  have h3 : ks ≠ [] := fun e => by cases hf with | mk _ _ _ _ _ _ _ _ _ g _ => have := g rfl; rw [e] at this; simp at this
  rw [er_nd h3, cntT_Q, ho]
theorem cnt_mk_P {b n : Nat} {q : Bool} {ad : Option Addr} {cap : Nat} {ks : List AT} {o : Nat} (h : q = false) (_hf : Fit (.mk b n q ad cap ks)) (ho : o = cntI q (ks.map er)) : cntT (er (.mk b n q ad cap ks)) = o := by
  subst h
  by_cases c : ks = []
  · subst c; rw [er_leaf, cntT, ho]; rfl
  · rw [er_nd c, cntT_P, ho]
/-! ## Rows turned, joined -/
/-- How far a list is turned: so many places from both ends. -/
def TRVr (l : List Rw) (i : Nat) (m : List Rw) : Prop := ∀ p, p < l.length → m.getD p dR = if p < i ∨ l.length ≤ p + i then l.getD (l.length - 1 - p) dR else l.getD p dR
theorem TRVr.zero (l : List Rw) : TRVr l 0 l := fun p hp => by rw [if_neg (by omega)]
theorem getD_setR (m : List Rw) (i j : Nat) (x : Rw) (h : i < m.length) : (m.set i x).getD j dR = if i = j then x else m.getD j dR := by
  rw [List.getD_eq_getElem?_getD, List.getElem?_set]
  split
  · rfl
  · rw [List.getD_eq_getElem?_getD]
theorem TRVr.step {l m : List Rw} {i : Nat} (h : TRVr l i m) (hm : m.length = l.length) (hi : i < l.length - 1 - i) : TRVr l (i + 1) ((m.set i (m.getD (l.length - 1 - i) dR)).set (l.length - 1 - i) (m.getD i dR)) := by
  intro p hp
  rw [getD_setR _ _ _ _ (by rw [List.length_set]; omega), getD_setR _ _ _ _ (by omega), h _ (by omega), h _ (by omega), h p hp]
  by_cases c1 : l.length - 1 - i = p
  · rw [if_pos c1, if_neg (by omega), if_pos (by omega)]; congr 1; omega
  · rw [if_neg c1]
    by_cases c2 : i = p
    · subst c2; rw [if_pos rfl, if_neg (by omega), if_pos (by omega)]
    · rw [if_neg c2]
      by_cases c3 : p < i ∨ l.length ≤ p + i
      · rw [if_pos c3, if_pos (by omega)]
      · rw [if_neg c3, if_neg (by omega)]
theorem TRVr.done {l m : List Rw} {i : Nat} (h : TRVr l i m) (hm : m.length = l.length) (hi : l.length - 1 ≤ 2 * i) : m = l.reverse := by
  apply List.ext_getElem?
  intro p
  by_cases hp : p < l.length
  · have h1 := h p hp
    have e : m.getD p dR = l.getD (l.length - 1 - p) dR := by
      rw [h1]
      split
      · rfl
      · congr 1; omega
    rw [List.getD_eq_getElem?_getD, List.getD_eq_getElem?_getD, List.getElem?_eq_getElem (by omega), List.getElem?_eq_getElem (by omega)] at e
    rw [List.getElem?_eq_getElem (by omega), List.getElem?_eq_getElem (by simpa using hp), List.getElem_reverse]
    exact congrArg some e
  · rw [List.getElem?_eq_none (by omega), List.getElem?_eq_none (by simpa using hp)]
theorem rws_set (m : List Rw) (i : Nat) (x : Rw) : setAll (rws m) i [x.v] = rws (m.set i x) := by
  simp only [setAll, updL_set]
  exact (List.map_set (f := Rw.v)).symm
def sm (ps : List Rw) : Nat := (ps.flatMap Rw.L).length
theorem sm_take {ps : List Rw} {k : Nat} (h : k < ps.length) : sm (ps.take (k + 1)) = sm (ps.take k) + (ps.getD k dR).L.length := by
  unfold sm; rw [takeR_succ h, List.flatMap_append, List.length_append]; simp
theorem fm_take {ps : List Rw} {k : Nat} (h : k < ps.length) : (ps.take (k + 1)).flatMap Rw.L = (ps.take k).flatMap Rw.L ++ (ps.getD k dR).L := by
  rw [takeR_succ h, List.flatMap_append]; simp
theorem sm_le (ps : List Rw) (k : Nat) : sm (ps.take k) ≤ sm ps := by
  unfold sm
  conv => rhs; rw [← List.take_append_drop k ps, List.flatMap_append, List.length_append]
  exact Nat.le_add_right _ _
/-! ## The first order -/
def zs (l : List Nat) : List Int := l.map fun (n : Nat) => (n : Int)
theorem zs_length (l : List Nat) : (zs l).length = l.length := List.length_map _
theorem zs_flat {α : Type} (f : α → List Nat) : ∀ l : List α, zs (l.flatMap f) = l.flatMap fun x => zs (f x)
  | [] => rfl
  | x :: l => by
    rw [List.flatMap_cons, List.flatMap_cons, ← zs_flat f l]
    unfold zs; rw [List.map_append]
theorem fst_ne {t : PT} (h : Ok t) (hn : (lvs t).Nodup) : fstT t ≠ [] := Fr_ne h (fst_least h hn).1
theorem fst_len {t : PT} (h : Ok t) (hn : (lvs t).Nodup) : (fstT t).length = (lvs t).length := (Fr_perm (fst_least h hn).1).length_eq
/-- The head of a row. -/
def hdI (l : List Int) : Int := l.headD 0
theorem hdI_zs {t : PT} : hdI (zs (fstT t)) = (hd t : Int) := by
  unfold hdI hd zs
  cases fstT t <;> rfl
theorem hdI_getD (l : List Int) : l.getD 0 0 = hdI l := by cases l <;> rfl
section
variable {P : Program} {Q : Exit → Act → World → Prop} {w0 : Ctx} {σ : List Res} {φ : List (Bool × VP)} {fr : Go.Fw.Fr} {ops : Array Oper} {lo : List Oper} {f : Bool}
theorem JL_rwSub {l m : List Rw} (h : (f, vRws l) ∈ φ) (hm : ∀ x ∈ m, x ∈ l) (k : JL P ops Q w0 σ ((f, vRws m) :: φ) lo fr) : JL P ops Q w0 σ φ lo fr :=
  JL_addView (p := vRws m) (f := f) (fun _ s x hx => s.views _ h x (hm x hx)) k
end
structure PI (ks : List AT) (i : Nat) (P : List Rw) : Prop where
  eq : P.map Rw.L = (ks.take i).map fun k => zs (fstT (er k))
theorem PI.zero (ks : List AT) : PI ks 0 [] := ⟨by rw [List.take_zero]; rfl⟩
theorem PI.step {ks : List AT} {i : Nat} {P : List Rw} (h : PI ks i P) (hi : i < ks.length) (r : Rw) (hr : r.L = zs (fstT (er (ks.getD i default)))) : PI ks (i + 1) (P ++ [r]) := ⟨by
  rw [takeA_succ hi, List.map_append, List.map_append, h.eq, List.map_singleton, List.map_singleton, hr]⟩
theorem PI.len {ks : List AT} {P : List Rw} (h : PI ks ks.length P) : P.length = ks.length := by
  have := congrArg List.length h.eq
  rwa [List.length_map, List.length_map, some_all] at this
theorem PI.get {ks : List AT} {P : List Rw} (h : PI ks ks.length P) {i : Nat} (hi : i < ks.length) : (P.getD i dR).L = zs (fstT (er (ks.getD i default))) := by
  have e : (P.map Rw.L)[i]? = (ks.map fun k => zs (fstT (er k)))[i]? := by rw [h.eq, some_all]
  have hp : i < P.length := by rw [h.len]; exact hi
  rw [List.getElem?_map, List.getElem?_map, List.getElem?_eq_getElem hp, List.getElem?_eq_getElem hi] at e
  rw [List.getD_eq_getElem?_getD, List.getElem?_eq_getElem hp, List.getD_eq_getElem?_getD, List.getElem?_eq_getElem hi]
  exact Option.some.inj e
theorem PI.mem {ks : List AT} {P : List Rw} (h : PI ks ks.length P) {r : Rw} (hr : r ∈ P) : ∃ k ∈ ks, r.L = zs (fstT (er k)) := by
  have : r.L ∈ P.map Rw.L := List.mem_map_of_mem hr
  rw [h.eq, some_all] at this
  obtain ⟨k, hk, e⟩ := List.mem_map.1 this
  exact ⟨k, hk, e.symm⟩
theorem PI.line {b n : Nat} {ad : Option Addr} {cap : Nat} {ks : List AT} {P D : List Rw} (h : PI ks ks.length P) (hks : ks ≠ []) (hD : D = if hdI (P.getD (ks.length - 1) dR).L < hdI (P.getD 0 dR).L then P.reverse else P) : D.flatMap Rw.L = zs (fstT (er (.mk b n true ad cap ks))) := by
  have hl : 0 < ks.length := List.length_pos_iff.2 hks
  have e1 : (ks.map er).getLastD default = er (ks.getD (ks.length - 1) default) := by
    rw [← getD_er ks (by omega), List.getLastD_eq_getLast?, List.getLast?_eq_getElem?, List.getD_eq_getElem?_getD, List.length_map]
  have e2 : (ks.map er).headD default = er (ks.getD 0 default) := by
    rw [← getD_er ks hl, List.headD_eq_head?_getD, List.head?_eq_getElem?, List.getD_eq_getElem?_getD]
  rw [er_nd hks, fstT_Q (by simpa using hks), e1, e2, zs_flat, hD, h.get (by omega), h.get hl, hdI_zs, hdI_zs]
  have hp := h.eq
  rw [some_all] at hp
  by_cases c : hd (er (ks.getD (ks.length - 1) default)) < hd (er (ks.getD 0 default))
  · rw [if_pos c, if_pos (by omega), List.flatMap_def, List.flatMap_def, List.map_reverse, hp, ← List.map_reverse, ← List.map_reverse, List.map_map]; rfl
  · rw [if_neg c, if_neg (by omega), List.flatMap_def, List.flatMap_def, hp, List.map_map]; rfl
theorem hd_lt_of {ks K : List PT} (ok : ∀ k ∈ ks, Ok k) (hn : (ks.flatMap lvs).Nodup) (hp : K.Perm ks) (hs : K.Pairwise fun a b => hd a ≤ hd b) : K.Pairwise fun a b => hd a < hd b := by
  have okK : ∀ k ∈ K, Ok k := fun k hk => ok k (hp.mem_iff.1 hk)
  have hnK := perm_nodup hp hn
  have hdK := kids_nodup okK hnK
  have ap := apart_of hnK
  have nk := kid_nodup hnK
  refine List.pairwise_iff_getElem.2 fun i j hi hj hij => ?_
  have h2 := List.pairwise_iff_getElem.1 hs i j hi hj hij
  refine Nat.lt_of_le_of_ne h2 fun e => ?_
  have m1 := hd_mem (okK _ (List.getElem_mem hi)) (fst_least (okK _ (List.getElem_mem hi)) (nk _ (List.getElem_mem hi))).1
  have m2 := hd_mem (okK _ (List.getElem_mem hj)) (fst_least (okK _ (List.getElem_mem hj)) (nk _ (List.getElem_mem hj))).1
  rw [← e] at m2
  have := ap _ (List.getElem_mem hi) _ (List.getElem_mem hj) _ m1 m2
  exact (List.pairwise_iff_getElem.1 hdK i j hi hj hij) this
theorem PI.any {b n : Nat} {ad : Option Addr} {cap : Nat} {ks : List AT} {P D : List Rw} (h : PI ks ks.length P) (hks : ks ≠ []) (hf : ∀ k ∈ ks, Fit k) (hn : (lvs (er (.mk b n false ad cap ks))).Nodup) (hp : D.Perm P)
    (hs : ∀ i j, i < j → j < D.length → hdI (D.getD i dR).L ≤ hdI (D.getD j dR).L) : D.flatMap Rw.L = zs (fstT (er (.mk b n false ad cap ks))) := by
  rw [er_nd hks] at *
  rw [lvs_nd] at hn
  rw [fstT_P, zs_flat, List.flatMap_def, List.flatMap_def]
  congr 1
  have ok : ∀ k ∈ ks.map er, Ok k := fun k hk => by
    obtain ⟨y, hy, rfl⟩ := List.mem_map.1 hk
    exact (hf y hy).ok
  have h1 : (D.map Rw.L).Perm ((srtK (ks.map er)).map fun k => zs (fstT k)) := by
    refine (hp.map _).trans ?_
    rw [h.eq, some_all]
    have := (srtK_perm (ks.map er)).symm.map (fun k => zs (fstT k))
    rwa [List.map_map] at this
  have hlt := hd_lt_of ok hn (srtK_perm _) (by
    have := List.pairwise_mergeSort (le := fun a b => decide (hd a ≤ hd b)) (fun a b c h1 h2 => by simp only [decide_eq_true_eq] at *; omega) (fun a b => by simp only [Bool.or_eq_true, decide_eq_true_eq]; omega) (ks.map er)
    exact this.imp fun h => by simpa using h)
  have hkey : ∀ k : PT, (hdI (zs (fstT k))).toNat = hd k := fun k => by rw [hdI_zs]; simp
  have p2 : ((srtK (ks.map er)).map fun k => zs (fstT k)).Pairwise fun a b => (hdI a).toNat < (hdI b).toNat := List.pairwise_map.2 (hlt.imp fun h => by rw [hkey, hkey]; exact h)
  refine sort_unique (key := fun l => (hdI l).toNat) h1 ?_ p2
  -- D is sorted, and its heads are apart
  have hmem : ∀ l ∈ D.map Rw.L, ∃ k ∈ srtK (ks.map er), l = zs (fstT k) := fun l hl => by
    obtain ⟨k, hk, e⟩ := List.mem_map.1 (h1.mem_iff.1 hl)
    exact ⟨k, hk, e.symm⟩
  have hnd : ((D.map Rw.L).map fun l => (hdI l).toNat).Nodup := by
    have := (h1.map fun l => (hdI l).toNat).nodup_iff
    rw [this, List.map_map]
    rw [show ((fun l => (hdI l).toNat) ∘ fun k => zs (fstT k)) = hd from funext hkey]
    exact List.pairwise_map.2 (hlt.imp fun h => Nat.ne_of_lt h)
  refine List.pairwise_map.2 (List.pairwise_iff_getElem.2 fun i j hi hj hij => ?_)
  have h3 := hs i j hij hj
  rw [List.getD_eq_getElem?_getD, List.getD_eq_getElem?_getD, List.getElem?_eq_getElem hi, List.getElem?_eq_getElem hj] at h3
  have h4 : hdI D[i].L ≤ hdI D[j].L := h3
  rw [List.map_map] at hnd
  have h5 := List.pairwise_iff_getElem.1 hnd i j (by simpa using hi) (by simpa using hj) hij
  rw [List.getElem_map, List.getElem_map] at h5
  have h6 : (hdI D[i].L).toNat ≠ (hdI D[j].L).toNat := h5
  omega
theorem PI.ne {ks : List AT} {P : List Rw} (h : PI ks ks.length P) (hf : ∀ k ∈ ks, Fit k) (hn : ∀ k ∈ ks, (lvs (er k)).Nodup) {r : Rw} (hr : r ∈ P) : r.L ≠ [] := by
  obtain ⟨k, hk, e⟩ := h.mem hr
  intro e2
  rw [e2] at e
  have := fst_ne (hf k hk).ok (hn k hk)
  unfold zs at e
  exact this (List.map_eq_nil_iff.1 e.symm)
theorem flat_len {ks : List AT} {P D : List Rw} (h : PI ks ks.length P) (hf : ∀ k ∈ ks, Fit k) (hn : ∀ k ∈ ks, (lvs (er k)).Nodup) (hp : D.Perm P) : (D.flatMap Rw.L).length = nA ks := by
  rw [(hp.flatMap_right Rw.L).length_eq, List.flatMap_def, h.eq, some_all]
  have : ∀ l : List AT, (∀ k ∈ l, Fit k ∧ (lvs (er k)).Nodup) → ((l.map fun k => zs (fstT (er k))).flatten).length = nA l := fun l => by
    induction l with
    | nil => intro _; rfl
    | cons k l ih =>
      intro hl
      have := ih fun x hx => hl x (List.mem_cons_of_mem _ hx)
      rw [List.map_cons, List.flatten_cons, List.length_append, this, zs_length, fst_len (hl k List.mem_cons_self).1.ok (hl k List.mem_cons_self).2]
      unfold nA; rw [List.map_cons, nl_cons]
  exact this ks fun k hk => ⟨hf k hk, hn k hk⟩
end Go.Fw.Pq
