/- Chapter 28: what the loops of linear, within and reduce keep. -/
import Derived.Test.YtjkbamfcoiikmaaGreatDoorPqFJ
import Derived.Test.YtjkbamfcoiikmaaGreatDoorPqVW
import Derived.Test.YtjkbamfcoiikmaaGreatDoorFwMN
namespace Go.Fw.Pq
open Go Go.RowKit Go.Fw
variable {S : Nat → Bool}
/-- How many leaves. -/
def nl (l : List PT) : Nat := (l.flatMap lvs).length
theorem nl_nil : nl [] = 0 := rfl
theorem nl_cons (k : PT) (l : List PT) : nl (k :: l) = (lvs k).length + nl l := by unfold nl; rw [List.flatMap_cons, List.length_append]
theorem nl_app (a b : List PT) : nl (a ++ b) = nl a + nl b := by unfold nl; rw [List.flatMap_append, List.length_append]
theorem nl_one (k : PT) : nl [k] = (lvs k).length := by rw [nl_cons, nl_nil, Nat.add_zero]
theorem nl_perm {a b : List PT} (h : a.Perm b) : nl a = nl b := (h.flatMap_right lvs).length_eq
theorem nl_rev (a : List PT) : nl a.reverse = nl a := nl_perm (List.reverse_perm a)
theorem lvs_pos {k : PT} (h : Ok k) : 1 ≤ (lvs k).length := List.length_pos_iff.2 h.lvs_ne
theorem nl_ge : ∀ {l : List PT}, (∀ k ∈ l, Ok k) → l.length ≤ nl l
  | [], _ => Nat.le_refl _
  | k :: l, h => by
    have h1 := lvs_pos (h k List.mem_cons_self)
    have h2 := nl_ge (l := l) fun x hx => h x (List.mem_cons_of_mem _ hx)
    rw [nl_cons, List.length_cons]; omega
theorem nl_mem {l : List PT} {k : PT} (h : k ∈ l) : (lvs k).length ≤ nl l := by
  obtain ⟨a, b, rfl⟩ := List.append_of_mem h
  rw [nl_app, nl_cons]; omega
theorem nl_grp (l : List PT) : nl (grp l) = nl l := by unfold nl; rw [lvs_grp]
theorem nl_by3 (l : List PT) : nl (by_ S 0 l) + nl (by_ S 1 l) + nl (by_ S 2 l) = nl l := by
  have h := (nl_perm (by_three (S := S) l))
  rw [nl_app, nl_app] at h
  exact h
theorem lin_nl {t : PT} (h : Ok t) {ts : List PT} (e : lin S t = some ts) : nl ts = (lvs t).length :=
  (Fr_perm ((lin_ok h _).2 ⟨ts, e, FrL_any' ts⟩).1).length_eq
where FrL_any' (ks : List PT) : FrL ks (ks.flatMap lvs) := FrL_lvs fun k _ => Fr_lvs k
theorem lin_ne {t : PT} (h : Ok t) {ts : List PT} (e : lin S t = some ts) : ts ≠ [] := by
  rintro rfl
  have := lin_nl h e
  have := lvs_pos h
  rw [nl_nil] at *; omega
/-- Lists in memory. -/
abbrev nA (l : List AT) : Nat := nl (l.map er)
theorem nA_ge {l : List AT} (h : ∀ k ∈ l, Fit k) : l.length ≤ nA l := by
  have := nl_ge (l := l.map er) fun k hk => by
    obtain ⟨x, hx, rfl⟩ := List.mem_map.1 hk
    exact (h x hx).ok
  rwa [List.length_map] at this
theorem nA_app (a b : List AT) : nA (a ++ b) = nA a + nA b := by unfold nA; rw [List.map_append, nl_app]
theorem nA_take {l : List AT} {i : Nat} (h : i < l.length) : nA (l.take (i + 1)) = nA (l.take i) + (lvs (er (l.getD i default))).length := by
  rw [takeA_succ h, nA_app]; unfold nA; rw [List.map_singleton, nl_one]
theorem nA_le (l : List AT) (i : Nat) : nA (l.take i) ≤ nA l := by
  have := nA_app (l.take i) (l.drop i)
  rw [List.take_append_drop] at this; omega
theorem nA_mem {l : List AT} {k : AT} (h : k ∈ l) : (lvs (er k)).length ≤ nA l := nl_mem (List.mem_map_of_mem h)
theorem nA_rev (l : List AT) : nA l.reverse = nA l := by unfold nA; rw [List.map_reverse, nl_rev]
theorem nA_by3 (l : List AT) : nA (byA S 0 l) + nA (byA S 1 l) + nA (byA S 2 l) = nA l := by unfold nA; rw [byA_er, byA_er, byA_er]; exact nl_by3 _
theorem nA_nd {b n : Nat} {q : Bool} {ad : Option Addr} {cap : Nat} {ks : List AT} (h : ks ≠ []) : (lvs (er (.mk b n q ad cap ks))).length = nA ks := by rw [er_nd h, lvs_nd]; rfl
theorem dropA {l : List AT} {i : Nat} (h : i < l.length) : l.drop i = l.getD i default :: l.drop (i + 1) := by
  rw [List.drop_eq_getElem_cons h, List.getD_eq_getElem?_getD, List.getElem?_eq_getElem h]; rfl
/-! ## A line in order -/
structure LQ (S : Nat → Bool) (K : List AT) (last i : Nat) (o : List AT) : Prop where
  eq : linQ S 0 (K.map er) = (linQ S last ((K.drop i).map er)).map (o.map er ++ ·)
  fit : ∀ x ∈ o, Fit x
  len : nA o ≤ nA (K.take i)
theorem LQ.zero (K : List AT) : LQ S K 0 0 [] := ⟨by rw [List.drop_zero]; cases linQ S 0 (K.map er) <;> rfl, (fun _ h => by cases h), Nat.zero_le _⟩
theorem LQ.step {K : List AT} {last i : Nat} {o p : List AT} (h : LQ S K last i o) (hi : i < K.length) (hk : Ok (er (K.getD i default))) (h1 : ¬ st S (er (K.getD i default)) < last) (h2 : ¬ (st S (er (K.getD i default)) = 1 ∧ last = 1))
    (e : lin S (er (K.getD i default)) = some (p.map er)) (hp : ∀ x ∈ p, Fit x) : LQ S K (st S (er (K.getD i default))) (i + 1) (o ++ p) := by
  refine ⟨?_, fun x hx => (List.mem_append.1 hx).elim (h.fit x) (hp x), ?_⟩
  · rw [h.eq, dropA hi, List.map_cons, linQ, if_neg (by omega), e, List.map_append]
    cases linQ S (st S (er (K.getD i default))) ((K.drop (i + 1)).map er) with
    | none => rfl
    | some z => simp
  · have h3 := h.len
    rw [nA_take hi, nA_app]
    have : nA p = _ := lin_nl hk e
    omega
theorem LQ.no {K : List AT} {last i : Nat} {o : List AT} (h : LQ S K last i o) (hi : i < K.length) (h1 : (st S (er (K.getD i default)) < last ∨ (st S (er (K.getD i default)) = 1 ∧ last = 1)) ∨ lin S (er (K.getD i default)) = none) : linQ S 0 (K.map er) = none := by
  rw [h.eq, dropA hi, List.map_cons, linQ]
  by_cases c : st S (er (K.getD i default)) < last ∨ (st S (er (K.getD i default)) = 1 ∧ last = 1)
  · rw [if_pos c]; rfl
  · rw [if_neg c, h1.resolve_left c]; rfl
theorem LQ.done {K : List AT} {last i : Nat} {o : List AT} (h : LQ S K last i o) (hi : K.length ≤ i) : linQ S 0 (K.map er) = some (o.map er) := by
  rw [h.eq, List.drop_eq_nil_of_le hi, List.map_nil, linQ]; simp
/-! ## The middle of a line -/
structure WQ (S : Nat → Bool) (K : List AT) (f l i : Nat) (o : List AT) : Prop where
  eq : wthL S f l 0 (K.map er) = (wthL S f l i ((K.drop i).map er)).map (o.map er ++ ·)
  fit : ∀ x ∈ o, Fit x
  len : nA o = nA (K.take i)
theorem WQ.zero (K : List AT) (f l : Nat) : WQ S K f l 0 [] := ⟨by rw [List.drop_zero]; cases wthL S f l 0 (K.map er) <;> rfl, (fun _ h => by cases h), rfl⟩
theorem WQ.step {K : List AT} {f l i : Nat} {o p p' : List AT} (h : WQ S K f l i o) (hi : i < K.length) (hk : Ok (er (K.getD i default))) (h1 : ¬ (f < i ∧ i < l ∧ st S (er (K.getD i default)) ≠ 2))
    (e : (if i = f ∨ i = l then lin S (er (K.getD i default)) else some [er (K.getD i default)]) = some (p.map er)) (hp : ∀ x ∈ p, Fit x) (hp' : p' = if i = l then p.reverse else p) : WQ S K f l (i + 1) (o ++ p') := by
  have hm : ∀ x ∈ p', Fit x := by
    subst hp'
    split
    · exact fun x hx => hp x (List.mem_reverse.1 hx)
    · exact hp
  have hn : nA p' = (lvs (er (K.getD i default))).length := by
    have : nA p = (lvs (er (K.getD i default))).length := by
      split at e
      · exact lin_nl hk e
      · unfold nA; rw [← Option.some.inj e, nl_one]
    subst hp'
    split
    · rw [nA_rev]; exact this
    · exact this
  refine ⟨?_, fun x hx => (List.mem_append.1 hx).elim (h.fit x) (hm x), ?_⟩
  · rw [h.eq, dropA hi, List.map_cons, wthL, if_neg h1, e, List.map_append]
    have : (if i = l then (p.map er).reverse else p.map er) = p'.map er := by
      subst hp'
      split
      · rw [List.map_reverse]
      · rfl
    cases hw : wthL S f l (i + 1) ((K.drop (i + 1)).map er) with
    | none => rfl
    | some z => simp [this]
  · have h3 := h.len
    rw [nA_take hi, nA_app]
    omega
theorem WQ.no {K : List AT} {f l i : Nat} {o : List AT} (h : WQ S K f l i o) (hi : i < K.length) (h1 : (f < i ∧ i < l ∧ st S (er (K.getD i default)) ≠ 2) ∨ ((i = f ∨ i = l) ∧ lin S (er (K.getD i default)) = none)) : wthL S f l 0 (K.map er) = none := by
  rw [h.eq, dropA hi, List.map_cons, wthL]
  by_cases c : f < i ∧ i < l ∧ st S (er (K.getD i default)) ≠ 2
  · rw [if_pos c]; rfl
  · rw [if_neg c]
    obtain ⟨h2, h3⟩ := h1.resolve_left c
    rw [if_pos h2, h3]; rfl
theorem WQ.no2 {K : List AT} {f l i : Nat} {o : List AT} (h : WQ S K f l i o) (hi : i < K.length) (h1 : (if i = f ∨ i = l then lin S (er (K.getD i default)) else some [er (K.getD i default)]) = none) : wthL S f l 0 (K.map er) = none := by
  by_cases c : i = f ∨ i = l
  · rw [if_pos c] at h1
    exact h.no hi (.inr ⟨c, h1⟩)
  · rw [if_neg c] at h1
    cases h1
theorem WQ.done {K : List AT} {f l i : Nat} {o : List AT} (h : WQ S K f l i o) (hi : K.length ≤ i) : wthL S f l 0 (K.map er) = some (o.map er) := by
  rw [h.eq, List.drop_eq_nil_of_le hi, List.map_nil, wthL]; simp
/-! ## What is not empty -/
theorem some_take {l : List AT} {i : Nat} (h : i < l.length) : some_ S ((l.take (i + 1)).map er) = some_ S ((l.take i).map er) + if st S (er (l.getD i default)) = 0 then 0 else 1 := by
  rw [takeA_succ h, List.map_append, some_app, List.map_singleton, some_cons]; rfl
/-- The last place of something of the row among the first ones; -1 if there is none. -/
def LI (S : Nat → Bool) (l : List AT) (i : Nat) (a : Int) : Prop :=
  (a = -1 ∧ some_ S ((l.take i).map er) = 0) ∨ ∃ k : Nat, a = (k : Int) ∧ k < i ∧ st S (er (l.getD k default)) ≠ 0 ∧ ∀ j, k < j → j < i → st S (er (l.getD j default)) = 0
theorem LI.zero (l : List AT) : LI S l 0 (-1) := .inl ⟨rfl, by rw [List.take_zero]; rfl⟩
theorem LI.same {l : List AT} {i : Nat} {a : Int} (h : LI S l i a) (hi : i < l.length) (h0 : st S (er (l.getD i default)) = 0) : LI S l (i + 1) a := by
  rcases h with ⟨rfl, h⟩ | ⟨k, rfl, hk, h1, h2⟩
  · exact .inl ⟨rfl, by rw [some_take hi, h, if_pos h0]⟩
  · refine .inr ⟨k, rfl, by omega, h1, fun j hj hj2 => ?_⟩
    by_cases c : j = i
    · subst c; exact h0
    · exact h2 j hj (by omega)
theorem LI.here {l : List AT} {i : Nat} (h0 : st S (er (l.getD i default)) ≠ 0) : LI S l (i + 1) (i : Int) := .inr ⟨i, rfl, by omega, h0, fun j hj hj2 => by omega⟩
theorem getD_er (l : List AT) {k : Nat} (h : k < l.length) : (l.map er).getD k default = er (l.getD k default) := by
  rw [List.getD_eq_getElem?_getD, List.getElem?_map, List.getD_eq_getElem?_getD, List.getElem?_eq_getElem h]; rfl
theorem LI.last {l : List AT} {a : Int} (h : LI S l l.length a) (h0 : some_ S (l.map er) ≠ 0) : a = (lastI S (l.map er) : Int) ∧ lastI S (l.map er) < l.length ∧ st S (er (l.getD (lastI S (l.map er)) default)) ≠ 0 := by
  rcases h with ⟨_, h⟩ | ⟨k, rfl, hk, h1, h2⟩
  · rw [List.take_of_length_le (Nat.le_refl _)] at h; exact absurd h h0
  · have e : l.map er = (l.take k).map er ++ er (l.getD k default) :: (l.drop (k + 1)).map er := by
      rw [← List.map_cons, ← dropA hk, ← List.map_append, List.take_append_drop]
    have hl : lastI S (l.map er) = k := by
      rw [e, lastI_at (fun x hx => ?_) h1, List.length_map, List.length_take]
      · omega
      · obtain ⟨y, hy, rfl⟩ := List.mem_map.1 hx
        obtain ⟨j, hj, rfl⟩ := List.mem_iff_getElem.1 hy
        have := h2 (k + 1 + j) (by omega) (by rw [List.length_drop] at hj; omega)
        rw [List.getElem_drop]
        rw [List.getD_eq_getElem?_getD, List.getElem?_eq_getElem (by rw [List.length_drop] at hj; omega)] at this
        exact this
    rw [hl]; exact ⟨rfl, hk, h1⟩
theorem some_all (l : List AT) : (l.take l.length) = l := List.take_of_length_le (Nat.le_refl _)
/-- The first place. -/
theorem firstI_eq {l : List AT} {k : Nat} (hk : k < l.length) (h1 : st S (er (l.getD k default)) ≠ 0) (h2 : ∀ j, j < k → st S (er (l.getD j default)) = 0) : Pq.firstI S (l.map er) = k := by
  have e : l.map er = (l.take k).map er ++ er (l.getD k default) :: (l.drop (k + 1)).map er := by
    rw [← List.map_cons, ← dropA hk, ← List.map_append, List.take_append_drop]
  rw [e, firstI_at (fun x hx => ?_) h1, List.length_map, List.length_take]
  · omega
  · obtain ⟨y, hy, rfl⟩ := List.mem_map.1 hx
    obtain ⟨j, hj, rfl⟩ := List.mem_iff_getElem.1 hy
    rw [List.length_take] at hj
    have := h2 j (by omega)
    rw [List.getElem_take]
    rw [List.getD_eq_getElem?_getD, List.getElem?_eq_getElem (by omega)] at this
    exact this
theorem some_ne {q : Bool} {l : List PT} (h0 : st S (.nd q l) ≠ 0) (hl : l ≠ []) : some_ S l ≠ 0 := fun e => h0 (by
  rw [st_nd]
  exact (comb_zero (by simpa using hl)).2 fun x hx => by
    obtain ⟨k, hk, rfl⟩ := List.mem_map.1 hx
    exact some_zero.1 e k hk)
theorem by_some {l : List PT} (h : some_ S l ≠ 0) : by_ S 1 l ≠ [] ∨ by_ S 2 l ≠ [] := by
  refine Classical.byContradiction fun hn => h (some_zero.2 fun k hk => ?_)
  have h1 : by_ S 1 l = [] := Classical.byContradiction fun h => hn (.inl h)
  have h2 : by_ S 2 l = [] := Classical.byContradiction fun h => hn (.inr h)
  rcases (by have := st_le S k; omega : st S k = 0 ∨ st S k = 1 ∨ st S k = 2) with e | e | e
  · exact e
  · have := by_mem.2 ⟨hk, e⟩; rw [h1] at this; cases this
  · have := by_mem.2 ⟨hk, e⟩; rw [h2] at this; cases this
/-! ## The parts of a node with kids in any order -/
def LP (S : Nat → Bool) (ks : List AT) (j : Nat) (o : List AT) : Prop :=
  (j = 0 ∧ o.map er = grp (by_ S 0 (ks.map er))) ∨ ∃ m l, j = 1 ∧ by_ S 1 (ks.map er) = [m] ∧ lin S m = some l ∧ o.map er = grp (by_ S 0 (ks.map er)) ++ l
theorem LP.zero {ks o : List AT} (h : o.map er = grp ((byA S 0 ks).map er)) : LP S ks 0 o := .inl ⟨rfl, by rw [h, byA_er]⟩
theorem one_of {ks : List AT} {j : Nat} (hj : j < (byA S 1 ks).length) (h1 : ¬ 1 < (byA S 1 ks).length) : j = 0 ∧ by_ S 1 (ks.map er) = [er ((byA S 1 ks).getD j default)] := by
  obtain rfl : j = 0 := by omega
  refine ⟨rfl, ?_⟩
  rw [← byA_er]
  match h : byA S 1 ks, hj, h1 with
  | [m], _, _ => rfl
  | _ :: _ :: _, _, h1 => exact absurd (by simp) h1
theorem LP.step {ks o p : List AT} {j : Nat} (h : LP S ks j o) (hj : j < (byA S 1 ks).length) (h1 : ¬ 1 < (byA S 1 ks).length) (e : lin S (er ((byA S 1 ks).getD j default)) = some (p.map er)) : LP S ks (j + 1) (o ++ p) := by
  obtain ⟨rfl, h2⟩ := one_of hj h1
  rcases h with ⟨_, h⟩ | ⟨_, _, h, _⟩
  · exact .inr ⟨_, _, rfl, h2, e, by rw [List.map_append, h]⟩
  · cases h
theorem LP.no {ks : List AT} {j : Nat} (hj : j < (byA S 1 ks).length) (h1 : ¬ 1 < (byA S 1 ks).length) (hs : st S (.nd false (ks.map er)) = 1) (e : lin S (er ((byA S 1 ks).getD j default)) = none) : lin S (.nd false (ks.map er)) = none := by
  rw [lin_P hs, (one_of hj h1).2]
  show Option.map _ (lin S _) = none
  rw [e]; rfl
theorem LP.two {ks : List AT} (h1 : 1 < (byA S 1 ks).length) (hs : st S (.nd false (ks.map er)) = 1) : lin S (.nd false (ks.map er)) = none := by
  rw [lin_P hs]
  match h : by_ S 1 (ks.map er) with
  | [] => rw [← List.length_map (f := er), byA_er, h] at h1; simp at h1
  | [m] => rw [← List.length_map (f := er), byA_er, h] at h1; simp at h1
  | _ :: _ :: _ => rfl
theorem LP.done {ks o g : List AT} {j : Nat} (h : LP S ks j o) (hj : ¬ j < (byA S 1 ks).length) (h1 : ¬ 1 < (byA S 1 ks).length) (hs : st S (.nd false (ks.map er)) = 1) (e : g.map er = grp ((byA S 2 ks).map er)) : lin S (.nd false (ks.map er)) = some ((o ++ g).map er) := by
  rw [lin_P hs, List.map_append, e, byA_er]
  rcases h with ⟨rfl, h⟩ | ⟨m, l, rfl, h2, h3, h⟩
  · have : by_ S 1 (ks.map er) = [] := by rw [← byA_er]; exact List.eq_nil_of_length_eq_zero (by rw [List.length_map]; omega)
    rw [this, h]
  · rw [h2, h]
    show Option.map _ (lin S m) = _
    rw [h3]; rfl
theorem one_ne {b n : Nat} {q : Bool} {ad : Option Addr} {cap : Nat} {ks : List AT} (h : st S (er (.mk b n q ad cap ks)) = 1) : ks ≠ [] := by
  rintro rfl
  rw [er_leaf, st] at h
  split at h <;> omega
theorem conAsO {P : Program} {f : FuncId} {args : List Value} {rin : List Res} {v0 : VP} {t : AT} {l : List AT} {Post : Value → List Res → List VP → Prop} (h : ConO P f args rin [v0, vA t] Post) (ht : t ∈ l) : ConO P f args rin [v0, vAs l] Post := fun w0 p0 p1 w s => h w0 p0 p1 w ⟨s.base, s.own, s.fresh, s.dist, fun p hp => by
  simp only [List.map_cons, List.map_nil, List.cons_append, List.nil_append, List.mem_cons, List.not_mem_nil, or_false] at hp
  rcases hp with rfl | rfl | rfl | rfl
  · exact s.views _ List.mem_cons_self
  · have : (vAs l).holds (Xof w0 rin true) w := s.views (true, vAs l) (List.mem_cons_of_mem _ List.mem_cons_self)
    exact this t ht
  · exact s.views _ (List.mem_cons_of_mem _ (List.mem_cons_of_mem _ List.mem_cons_self))
  · exact s.views _ (List.mem_cons_of_mem _ (List.mem_cons_of_mem _ (List.mem_cons_of_mem _ List.mem_cons_self)))⟩
theorem conAsA {P : Program} {f : FuncId} {args : List Value} {v0 : VP} {t : AT} {l : List AT} {Post : Value → List VP → Prop} (h : ConA P f args [v0, vA t] Post) (ht : t ∈ l) : ConA P f args [v0, vAs l] Post := fun w X hX hw => h w X hX fun p hp => by
  rcases List.mem_cons.1 hp with rfl | hp
  · exact hw _ List.mem_cons_self
  · rw [List.mem_singleton.1 hp]
    exact hw (vAs l) (List.mem_cons_of_mem _ List.mem_cons_self) t ht
theorem nA_grp {o l : List AT} (h : o.map er = grp (l.map er)) : nA o = nA l := by unfold nA; rw [h, nl_grp]
theorem one_grp {o l : List AT} (h : o.map er = grp (l.map er)) : o.length ≤ 1 := by
  have := congrArg List.length h
  rw [List.length_map] at this
  rw [this]
  match l.map er with
  | [] => exact Nat.zero_le _
  | [_] => exact Nat.le_refl _
  | _ :: _ :: _ => exact Nat.le_refl _
/-! ## Which end of a line comes first -/
def kidsK (S : Nat → Bool) (ks : List AT) : List AT := if turnQ S (ks.map er) then ks.reverse else ks
theorem turn_er {ks : List AT} (h : ks ≠ []) : turnQ S (ks.map er) = decide (st S (er (ks.getD (ks.length - 1) default)) < st S (er (ks.getD 0 default))) := by
  have hl : 0 < ks.length := List.length_pos_iff.2 h
  unfold turnQ
  rw [show (ks.map er).getLastD default = er (ks.getD (ks.length - 1) default) from by
    rw [← getD_er ks (by omega), List.getLastD_eq_getLast?, List.getLast?_eq_getElem?, List.getD_eq_getElem?_getD, List.length_map]]
  rw [show (ks.map er).headD default = er (ks.getD 0 default) from by
    rw [← getD_er ks hl, List.headD_eq_head?_getD, List.head?_eq_getElem?, List.getD_eq_getElem?_getD]]
theorem kidsK_t {ks : List AT} (h : ks ≠ []) (h2 : st S (er (ks.getD (ks.length - 1) default)) < st S (er (ks.getD 0 default))) : kidsK S ks = ks.reverse := by unfold kidsK; rw [turn_er h, decide_eq_true h2, if_pos rfl]
theorem kidsK_f {ks : List AT} (h : ks ≠ []) (h2 : ¬ st S (er (ks.getD (ks.length - 1) default)) < st S (er (ks.getD 0 default))) : kidsK S ks = ks := by unfold kidsK; rw [turn_er h, decide_eq_false h2]; rfl
theorem kidsK_len (ks : List AT) : (kidsK S ks).length = ks.length := by unfold kidsK; split <;> simp
theorem kidsK_mem {ks : List AT} {t : AT} (h : t ∈ kidsK S ks) : t ∈ ks := by
  unfold kidsK at h
  split at h
  · exact List.mem_reverse.1 h
  · exact h
theorem kidsK_nA (ks : List AT) : nA (kidsK S ks) = nA ks := by
  unfold kidsK; split
  · exact nA_rev ks
  · rfl
theorem lin_K {ks : List AT} (hs : st S (.nd true (ks.map er)) = 1) : lin S (.nd true (ks.map er)) = linQ S 0 ((kidsK S ks).map er) := by
  rw [lin_Q hs]; unfold kidsK
  split <;> simp [List.map_reverse]
/-! ## A pointer or nothing -/
def oad : List AT → Option Addr
  | [] => none
  | t :: _ => some ⟨t.blk, 0, none⟩
theorem optr_oad (o : List AT) : optr o = .pointer (oad o) := by cases o <;> rfl
theorem oad_none {o : List AT} (h : (oad o).isNone = true) : o = [] := by
  cases o with
  | nil => rfl
  | cons t o => exact absurd h (by simp [oad])
theorem oad_some {o : List AT} (ho : o.length ≤ 1) (h : (oad o).isNone = false) : ∃ t, o = [t] := by
  match o, ho, h with
  | [t], _, _ => exact ⟨t, rfl⟩
theorem vals_get {l : List Value} {k : Nat} (h : k < l.length) : l[k]? = some (l.getD k undef) := by
  rw [List.getD_eq_getElem?_getD, List.getElem?_eq_getElem h]; rfl
theorem ptrs_getD {l : List AT} {k : Nat} (h : k < l.length) : (ptrs l).getD k undef = ptr (l.getD k default) := by
  rw [List.getD_eq_getElem?_getD, ptrs_get h]; rfl
theorem conAs3 {P : Program} {f : FuncId} {args : List Value} {u0 v0 : VP} {t : AT} {l : List AT} {Post : Value → List VP → Prop} (h : ConF P f args [u0, v0, vA t] Post) (ht : t ∈ l) : ConF P f args [u0, v0, vAs l] Post := fun w hw => h w fun p hp => by
  simp only [List.mem_cons, List.not_mem_nil, or_false] at hp
  rcases hp with rfl | rfl | rfl
  · exact hw _ List.mem_cons_self
  · exact hw _ (List.mem_cons_of_mem _ List.mem_cons_self)
  · exact hw (vAs l) (List.mem_cons_of_mem _ (List.mem_cons_of_mem _ List.mem_cons_self)) t ht
/-! ## A node or none -/
structure RD (p : Option Addr) (b : Bool) (o : List AT) (e : Option PT) : Prop where
  fit : ∀ x ∈ o, Fit x
  yes : b = true → ∃ a, o = [a] ∧ p = some ⟨a.blk, 0, none⟩ ∧ e = some (er a)
  no : b = false → e = none
theorem RD.not {p : Option Addr} {e : Option PT} (h : e = none) : RD p false [] e := ⟨(fun _ h => by cases h), fun h => (by cases h), fun _ => h⟩
theorem RD.same {t : AT} {e : Option PT} (h : Fit t) (he : e = some (er t)) : RD (some ⟨t.blk, 0, none⟩) true [t] e :=
  ⟨fun x hx => by rw [List.mem_singleton.1 hx]; exact h, fun _ => ⟨t, rfl, rfl, he⟩, fun h => (by cases h)⟩
theorem RD.of {o : List AT} {l : List PT} {e : Option PT} (h : ∀ t ∈ o, Fit t) (he : o.map er = l) (hl : l = [l.headD default]) (hE : e = some (l.headD default)) : RD (oad o) true o e := by
  rw [hl] at he
  match o, he, h with
  | [a], he, h => exact RD.same (h a List.mem_cons_self) (by rw [hE]; congr 1; exact (List.cons.inj he).1.symm)
  | [], he, _ => cases he
  | _ :: _ :: _, he, _ => exact absurd (congrArg List.length he) (by simp)
theorem single_of {o : List AT} {l : List PT} (he : o.map er = l) (hl : l = [l.headD default]) : ∃ w, o = [w] := by
  rw [hl] at he
  match o, he with
  | [a], _ => exact ⟨a, rfl⟩
  | [], he => cases he
  | _ :: _ :: _, he => exact absurd (congrArg List.length he) (by simp)
theorem WQ.ne {K : List AT} {f l i : Nat} {o : List AT} (h : WQ S K f l i o) (hi : K.length ≤ i) (hK : ∀ k ∈ K, Fit k) (h0 : K ≠ []) : o.map er ≠ [] := fun e => by
  have h1 := h.len
  rw [List.take_of_length_le hi] at h1
  have h2 := nA_ge hK
  have h3 : nA o = 0 := by unfold nA; rw [e]; rfl
  have := List.length_pos_iff.2 h0
  omega
def nodeIf (bb : Bool) (b : Nat) (q : Bool) (ad : Option Addr) (c : Nat) (ks : List AT) : List AT := if bb then [.mk b 0 q ad c ks] else []
theorem some_len (l : List AT) : some_ S (l.map er) ≤ l.length := by
  unfold some_
  exact Nat.le_trans (List.length_filter_le _ _) (Nat.le_of_eq (List.length_map _))
theorem by0_some : ∀ l : List AT, (byA S 0 l).length + some_ S (l.map er) = l.length
  | [] => rfl
  | k :: l => by
    have ih := by0_some l
    rw [List.map_cons, some_cons, List.length_cons]
    unfold byA at *
    rw [List.filter_cons]
    by_cases c : st S (er k) = 0
    · rw [if_pos (by simpa using c), if_pos c, List.length_cons]; omega
    · rw [if_neg (by simpa using c), if_neg c]; omega
theorem red_er {b n : Nat} {q : Bool} {ad : Option Addr} {cap : Nat} {ks : List AT} (hks : ks ≠ []) (h2 : st S (er (.mk b n q ad cap ks)) ≠ 2) : red S (er (.mk b n q ad cap ks)) =
    if some_ S (ks.map er) = 1 then ((((ks.map er).map (red S)).getD (lastI S (ks.map er)) none).map fun k => .nd q ((ks.map er).set (lastI S (ks.map er)) k)) else if q then wth S (ks.map er) else tog S (ks.map er) := by
  rw [er_nd hks] at *
  rw [red_nd, if_neg h2]
theorem RD.one {b n : Nat} {q : Bool} {ad : Option Addr} {cap : Nat} {ks : List AT} {p : Option Addr} {bb : Bool} {o : List AT} {b' c' : Nat} {ad' : Option Addr} (hf : Fit (.mk b n q ad cap ks)) (hks : ks ≠ []) (h2 : st S (er (.mk b n q ad cap ks)) ≠ 2) (h1 : some_ S (ks.map er) = 1)
    (hlt : lastI S (ks.map er) < ks.length) (h : RD p bb o (red S (er (ks.getD (lastI S (ks.map er)) default)))) (hc : ks.length ≤ c') :
    RD (some ⟨b', 0, none⟩) bb (nodeIf bb b' q ad' c' (ks.set (lastI S (ks.map er)) (o.headD default))) (red S (er (.mk b n q ad cap ks))) := by
  have e : ((ks.map er).map (red S)).getD (lastI S (ks.map er)) none = red S (er (ks.getD (lastI S (ks.map er)) default)) := by
    rw [List.getD_eq_getElem?_getD, List.getElem?_map, List.getElem?_map, List.getD_eq_getElem?_getD, List.getElem?_eq_getElem hlt]; rfl
  rw [red_er hks h2, if_pos h1, e]
  cases bb with
  | false => exact RD.not (by rw [h.no rfl]; rfl)
  | true =>
    obtain ⟨a, rfl, _, he⟩ := h.yes rfl
    have hl : 0 < ks.length := List.length_pos_iff.2 hks
    have hm : ∀ x ∈ ks.set (lastI S (ks.map er)) a, Fit x := fun x hx => (List.mem_or_eq_of_mem_set hx).elim (hf.kids x) (fun e => by rw [e]; exact h.fit a List.mem_cons_self)
    refine RD.same (t := .mk b' 0 q ad' c' (ks.set (lastI S (ks.map er)) a)) (by
      cases hf with
      | mk _ _ _ _ _ _ g1 g2 g3 g4 g5 => exact .mk _ _ _ _ _ _ (by rw [List.length_set]; exact hc) (by rw [List.length_set]; exact g2) (fun _ => by rw [List.length_set]; exact g3 hks) (fun hq => by rw [List.length_set]; exact g4 hq) hm) ?_
    rw [he, er_mk (by rw [List.length_set]; exact hl), List.map_set]; rfl
theorem JE_nodeIf {Q : Exit → Act → World → Prop} {w0 : Ctx} {σ : List Res} {φ : List (Bool × VP)} {fr : Go.Fw.Fr} {e : Exit} {f bb : Bool} {b i : Nat} {q : Bool} {ad : Option Addr} {c : Nat} {ks o : List AT} {p : Option Addr} (h1 : (f, vCells (some ⟨b, 0, none⟩) (ncells 0 q ad ks.length c)) ∈ φ) (h2 : (f, vCells ad (setAll (ptrs ks) i [.pointer p])) ∈ φ) (h3 : (f, vAs ks) ∈ φ) (h4 : (f, vAs o) ∈ φ)
    (hb : bb = true → ∃ a, o = [a] ∧ p = some ⟨a.blk, 0, none⟩) (k : JE Q e w0 σ ((f, vAs (nodeIf bb b q ad c (ks.set i (o.headD default)))) :: φ) fr) : JE Q e w0 σ φ fr := by
  refine JE_addView (p := vAs (nodeIf bb b q ad c (ks.set i (o.headD default)))) (f := f) (fun w s => ?_) k
  cases bb with
  | false => exact fun x hx => by cases hx
  | true =>
    obtain ⟨a, rfl, rfl⟩ := hb rfl
    intro x hx
    obtain rfl := List.mem_singleton.1 hx
    have g1 : CellsAt (Xof w0 σ f) w (some ⟨b, 0, none⟩) (ncells 0 q ad ks.length c) := s.views _ h1
    have g2 : CellsAt (Xof w0 σ f) w ad (setAll (ptrs ks) i [ptr a]) := s.views _ h2
    have g3 : ∀ x ∈ ks, AT.hold (Xof w0 σ f) w x := s.views _ h3
    have g4 : ∀ x ∈ [a], AT.hold (Xof w0 σ f) w x := s.views _ h4
    rw [ptrs_set] at g2
    rw [AT.hold]
    refine ⟨by rw [List.length_set]; exact g1, g2, AT.holdL_iff.2 fun x hx => ?_⟩
    exact (List.mem_or_eq_of_mem_set hx).elim (g3 x) (fun e => g4 x (by rw [e]; exact List.mem_cons_self))
/-! ## Several kids that have something of the row -/
def TG (S : Nat → Bool) (ks l : List AT) : Prop := (byA S 1 ks = [] ∧ l = []) ∨ ∃ a r, byA S 1 ks = a :: r ∧ r.length ≤ 1 ∧ lin S (er a) = some (l.map er)
theorem TG.zero {ks : List AT} (h : (byA S 1 ks).length = 0) : TG S ks [] := .inl ⟨List.eq_nil_of_length_eq_zero h, rfl⟩
theorem TG.some {ks l : List AT} (h : (byA S 1 ks).length = 1 ∨ (byA S 1 ks).length = 2) (e : lin S (er ((byA S 1 ks).getD 0 default)) = some (l.map er)) : TG S ks l := by
  match hb : byA S 1 ks, h with
  | a :: r, h =>
    rw [hb] at e
    refine .inr ⟨a, r, hb, ?_, e⟩
    simp only [List.length_cons] at h; omega
theorem tog_no {ks : List AT} (h : 2 < (byA S 1 ks).length) : tog S (ks.map er) = none := by
  rw [tog_togL]; unfold togL
  rw [← byA_er S 1]
  match byA S 1 ks, h with
  | _ :: _ :: _ :: _, _ => rfl
theorem tog_no0 {ks : List AT} (h : (byA S 1 ks).length = 1 ∨ (byA S 1 ks).length = 2) (e : lin S (er ((byA S 1 ks).getD 0 default)) = none) : tog S (ks.map er) = none := by
  rw [tog_togL]; unfold togL
  rw [← byA_er S 1]
  match byA S 1 ks, h, e with
  | [a], _, e =>
    show Option.map _ (Option.map _ (lin S (er a))) = none
    rw [show lin S (er a) = none from e]; rfl
  | [a, b], _, e =>
    show Option.map _ (match lin S (er a), lin S (er b) with | some l, some m => some (l ++ grp _ ++ m.reverse) | _, _ => none) = none
    rw [show lin S (er a) = none from e]; rfl
  | [], h, _ => simp at h
  | _ :: _ :: _ :: _, h, _ => simp at h
theorem tog_no1 {ks : List AT} (h : (byA S 1 ks).length = 2) (e : lin S (er ((byA S 1 ks).getD 1 default)) = none) : tog S (ks.map er) = none := by
  rw [tog_togL]; unfold togL
  rw [← byA_er S 1]
  match byA S 1 ks, h, e with
  | [a, b], _, e =>
    show Option.map _ (match lin S (er a), lin S (er b) with | some l, some m => some (l ++ grp _ ++ m.reverse) | _, _ => none) = none
    rw [show lin S (er b) = none from e]
    cases lin S (er a) <;> rfl
theorem togL_less {ks l g : List AT} (h : TG S ks l) (h2 : (byA S 1 ks).length ≠ 2) (e : g.map er = grp ((byA S 2 ks).map er)) : togL S (ks.map er) = some ((l ++ g).map er) := by
  unfold togL
  rw [← byA_er S 1, ← byA_er S 2, List.map_append, e]
  rcases h with ⟨h, rfl⟩ | ⟨a, r, h, hr, h3⟩
  · rw [h]; rfl
  · rw [h] at h2 ⊢
    match r, hr, h2 with
    | [], _, _ =>
      show Option.map _ (lin S (er a)) = _
      rw [h3]; rfl
    | [_], _, h2 => simp at h2
theorem togL_two {ks l g r : List AT} (h : TG S ks l) (h2 : (byA S 1 ks).length = 2) (e : g.map er = grp ((byA S 2 ks).map er)) (er2 : lin S (er ((byA S 1 ks).getD 1 default)) = some (r.map er)) : togL S (ks.map er) = some (((l ++ g) ++ r.reverse).map er) := by
  unfold togL
  rw [← byA_er S 1, ← byA_er S 2, List.map_append, List.map_append, e, List.map_reverse]
  rcases h with ⟨h, _⟩ | ⟨a, s, h, hr, h3⟩
  · rw [h] at h2; simp at h2
  · rw [h] at h2 er2 ⊢
    match s, hr, h2, er2 with
    | [b], _, _, e2 =>
      show (match lin S (er a), lin S (er b) with | some l, some m => some (l ++ grp _ ++ m.reverse) | _, _ => none) = _
      rw [h3, show lin S (er b) = _ from e2]
theorem TG.nA {ks l : List AT} (hk : ∀ k ∈ ks, Fit k) (h : TG S ks l) : nA l ≤ nA ((byA S 1 ks).take 1) := by
  rcases h with ⟨h, rfl⟩ | ⟨a, r, h, _, h3⟩
  · exact Nat.zero_le _
  · have hm : a ∈ byA S 1 ks := by rw [h]; exact List.mem_cons_self
    have : Pq.nA l = _ := lin_nl (hk a (byA_mem hm)).ok h3
    rw [h, this]
    show _ ≤ Pq.nA [a]
    unfold Pq.nA
    rw [List.map_singleton, nl_one]; exact Nat.le_refl _
theorem togL_ne {ks l : List AT} (hk : ∀ k ∈ ks, Fit k) (h0 : some_ S (ks.map er) ≠ 0) (h : togL S (ks.map er) = some (l.map er)) : l.map er ≠ [] := by
  intro e
  rw [e] at h
  have ok : ∀ k ∈ ks.map er, Ok k := fun k hk' => by
    obtain ⟨x, hx, rfl⟩ := List.mem_map.1 hk'
    exact (hk x hx).ok
  unfold togL at h
  split at h
  · rename_i h1
    rcases by_some h0 with h2 | h2
    · exact h2 h1
    · have := grp_one h2
      rw [Option.some.inj h] at this; cases this
  · rename_i a h1
    have ha : Ok a := ok a (by_mem.1 (show a ∈ by_ S 1 (ks.map er) from by rw [h1]; exact List.mem_cons_self)).1
    obtain ⟨z, hz, hz2⟩ := Option.map_eq_some_iff.1 h
    exact lin_ne ha hz (List.append_eq_nil_iff.1 hz2).1
  · rename_i a b h1
    have ha : Ok a := ok a (by_mem.1 (show a ∈ by_ S 1 (ks.map er) from by rw [h1]; exact List.mem_cons_self)).1
    split at h
    · rename_i l m e1 e2
      exact lin_ne ha e1 (List.append_eq_nil_iff.1 (List.append_eq_nil_iff.1 (Option.some.inj h)).1).1
    · cases h
  · cases h
theorem RD.tog {ks l o : List AT} {w : AT} (h : togL S (ks.map er) = Option.some (l.map er)) (hw : er w = (lne (l.map er)).headD default) (hl : l.map er ≠ []) (ho : ∀ t ∈ o, Fit t) (he : o.map er = grp ((byA S 0 ks ++ [w]).map er)) : RD (oad o) true o (Pq.tog S (ks.map er)) := by
  have e1 : (byA S 0 ks ++ [w]).map er = by_ S 0 (ks.map er) ++ lne (l.map er) := by
    rw [List.map_append, byA_er, lne_one hl, ← hw]; rfl
  rw [e1] at he
  refine RD.of ho he (grp_one (fun e => ?_)) ?_
  · have := (List.append_eq_nil_iff.1 e).2
    rw [lne_one hl] at this; cases this
  · rw [tog_togL, h]; rfl
end Go.Fw.Pq

/- Chapter 28: lists of rows in memory; what accepting a row does, in plain Lean. -/
namespace Go.Fw.Pq
open Go Go.RowKit Go.Fw
/-- A row in memory. -/
structure Rw where
  ad : Option Addr
  cap : Nat
  L : List Int
def dR : Rw := ⟨none, 0, []⟩
instance : Inhabited Rw := ⟨dR⟩
abbrev Rw.v (r : Rw) : Value := .slice r.ad r.L.length r.cap
abbrev rws (l : List Rw) : List Value := l.map Rw.v
def vRws (l : List Rw) : VP := ⟨fun X w => ∀ r ∈ l, CellsAt X w r.ad (i64s r.L), fun _ _ _ _ h _ b c r hr => (h r hr).mono b c⟩
theorem rws_length (l : List Rw) : (rws l).length = l.length := List.length_map _
theorem rws_get {l : List Rw} {i : Nat} (h : i < l.length) : (rws l)[i]? = some ((l.getD i dR).v) := by
  rw [List.getElem?_map, List.getD_eq_getElem?_getD, List.getElem?_eq_getElem h]; rfl
theorem rws_one (l : List Rw) : AllOne (rws l) := fun v hv => by
  obtain ⟨x, _, rfl⟩ := List.mem_map.1 hv
  rfl
theorem rws_app (l m : List Rw) : rws l ++ rws m = rws (l ++ m) := List.map_append.symm
theorem rw_mem {l : List Rw} {i : Nat} (h : i < l.length) : l.getD i dR ∈ l := by
  rw [List.getD_eq_getElem?_getD, List.getElem?_eq_getElem h]; exact List.getElem_mem h
theorem takeR_succ {l : List Rw} {i : Nat} (h : i < l.length) : l.take (i + 1) = l.take i ++ [l.getD i dR] := by
  rw [List.take_add_one, List.getD_eq_getElem?_getD, List.getElem?_eq_getElem h]; rfl
abbrev Rls (l : List Rw) : List (List Int) := l.map Rw.L
section
variable {P : Program} {Q : Exit → Act → World → Prop} {w0 : Ctx} {σ : List Res} {φ : List (Bool × VP)} {fr : Go.Fw.Fr} {ops : Array Oper} {lo : List Oper} {c : Code} {f : Bool}
theorem JC_rwGet {l : List Rw} (r : Rw) (h : (f, vRws l) ∈ φ) (hr : r ∈ l) (k : JC P c Q w0 σ ((f, vCells r.ad (i64s r.L)) :: φ) fr) : JC P c Q w0 σ φ fr := JC_addView (p := vCells r.ad (i64s r.L)) (f := f) (fun _ s => s.views _ h r hr) k
theorem JC_rwNil (k : JC P c Q w0 σ ((true, vRws []) :: φ) fr) : JC P c Q w0 σ φ fr := JC_addView (p := vRws []) (f := true) (fun _ _ _ hx => by cases hx) k
theorem JE_rwNil {e : Exit} (k : JE Q e w0 σ ((true, vRws []) :: φ) fr) : JE Q e w0 σ φ fr := JE_addView (p := vRws []) (f := true) (fun _ _ _ hx => by cases hx) k
theorem JL_rwSnoc {l : List Rw} {ad : Option Addr} {cp : Nat} {L : List Int} (h : (f, vRws l) ∈ φ) (h2 : (f, vCells ad (i64s L)) ∈ φ) (k : JL P ops Q w0 σ ((f, vRws (l ++ [⟨ad, cp, L⟩])) :: φ) lo fr) : JL P ops Q w0 σ φ lo fr :=
  JL_addView (p := vRws (l ++ [⟨ad, cp, L⟩])) (f := f) (fun _ s r hr => by
    rcases List.mem_append.1 hr with hr | hr
    · exact s.views _ h r hr
    · rw [List.mem_singleton.1 hr]; exact s.views _ h2) k
end
section
variable {P : Program} {Q : Exit → Act → World → Prop} {w0 : Ctx} {σ : List Res} {φ : List (Bool × VP)} {fr : Go.Fw.Fr} {ops : Array Oper} {lo : List Oper} {f : Bool}
theorem JL_atLeaf {b n : Nat} (h1 : (f, vCells (some ⟨b, 0, none⟩) [.int .i64 (n : Nat), .bool false, .slice none 0 0]) ∈ φ) (k : JL P ops Q w0 σ ((f, vA (.mk b n false none 0 [])) :: φ) lo fr) : JL P ops Q w0 σ φ lo fr :=
  JL_addView (p := vA (.mk b n false none 0 [])) (f := f) (fun _ s => ⟨s.views _ h1, fun j u hj => by simp [ptrs] at hj, trivial⟩) k
end
theorem leafs_succ {l : List AT} {i : Nat} {t : AT} (h : l.map er = (List.range i).map .leaf) (ht : er t = .leaf i) : (l ++ [t]).map er = (List.range (i + 1)).map .leaf := by
  rw [List.map_append, h, List.range_succ, List.map_append, List.map_singleton, ht]; rfl
theorem nilRL {w0 : Ctx} {σ : List Res} {φ : List (Bool × VP)} {w : World} (s : St w0 w σ φ) {f : Bool} {ad : Option Addr} {l : List Rw} (h : (f, vCells ad (rws l)) ∈ φ) (ha : ad.isNone = true) : l = [] := by
  cases l with
  | nil => rfl
  | cons x l =>
    have hv : CellsAt (Xof w0 σ f) w ad (rws (x :: l)) := s.views _ h
    obtain ⟨b, o, e, _⟩ := hv 0 x.v rfl
    rw [e] at ha; cases ha
theorem nilIL {w0 : Ctx} {σ : List Res} {φ : List (Bool × VP)} {w : World} (s : St w0 w σ φ) {f : Bool} {ad : Option Addr} {l : List Int} (h : (f, vCells ad (i64s l)) ∈ φ) (ha : ad.isNone = true) : l = [] := by
  cases l with
  | nil => rfl
  | cons x l =>
    have hv : CellsAt (Xof w0 σ f) w ad (i64s (x :: l)) := s.views _ h
    obtain ⟨b, o, e, _⟩ := hv 0 (.int .i64 x) rfl
    rw [e] at ha; cases ha
/-! ## Rows that ascend -/
def okA (L : List Int) (n : Nat) (i : Nat) : Prop := 0 ≤ L.getD i 0 ∧ L.getD i 0 < n ∧ (i = 0 ∨ L.getD (i - 1) 0 < L.getD i 0)
instance (L : List Int) (n i : Nat) : Decidable (okA L n i) := by unfold okA; infer_instance
def ascR (L : List Int) (n : Nat) : Prop := ∀ i, i < L.length → okA L n i
instance (L : List Int) (n : Nat) : Decidable (ascR L n) := by unfold ascR; infer_instance
theorem ascR_step {L : List Int} {n i : Nat} (h : ∀ j, j < i → okA L n j) (h2 : okA L n i) : ∀ j, j < i + 1 → okA L n j := fun j hj => by
  by_cases e : j = i
  · subst e; exact h2
  · exact h j (by omega)
def nr (L : List Int) : List Nat := L.map Int.toNat
theorem nr_lt {L : List Int} {n : Nat} (h : ascR L n) : ∀ c ∈ nr L, c < n := fun c hc => by
  obtain ⟨x, hx, rfl⟩ := List.mem_map.1 hc
  obtain ⟨i, hi, rfl⟩ := List.mem_iff_getElem.1 hx
  have := h i hi
  unfold okA at this
  rw [List.getD_eq_getElem?_getD, List.getElem?_eq_getElem hi] at this
  have h1 : 0 ≤ L[i] := this.1
  have h2 : L[i] < n := this.2.1
  omega
theorem nr_nil {L : List Int} : nr L = [] ↔ L = [] := by unfold nr; simp
/-! ## A row as a map -/
def MapOf (M : List (Int × Bool)) (L : List Int) : Prop := (M.map (·.1)).Nodup ∧ ∀ k : Int, getM false k M = decide (k ∈ L)
theorem MapOf.nil : MapOf [] [] := ⟨List.nodup_nil, fun k => by simp [getM]⟩
theorem MapOf.set {M : List (Int × Bool)} {L : List Int} (h : MapOf M L) (x : Int) : MapOf (setM x true M) (L ++ [x]) := by
  refine ⟨setM_nodup h.1, fun k => ?_⟩
  rw [getM_setM, h.2 k]
  by_cases e : x = k
  · rw [if_pos e, decide_eq_true (by rw [e]; simp)]
  · rw [if_neg e]
    refine decide_eq_decide.2 ?_
    simp [Ne.symm e]
theorem takeI_snoc {l : List Int} {i : Nat} (h : i < l.length) : l.take (i + 1) = l.take i ++ [l.getD i 0] := by
  rw [List.take_add_one, List.getD_eq_getElem?_getD, List.getElem?_eq_getElem h]; rfl
theorem MapOf.rowS {M : List (Int × Bool)} {L : List Int} {n : Nat} (h : MapOf M L) (ha : ascR L n) : mS M = rowS (nr L) := by
  funext x
  unfold mS
  rw [h.2, Bool.eq_iff_iff, decide_eq_true_iff, rowS_iff]
  unfold nr
  rw [List.mem_map]
  constructor
  · intro hx; exact ⟨_, hx, by simp⟩
  · rintro ⟨y, hy, rfl⟩
    obtain ⟨i, hi, rfl⟩ := List.mem_iff_getElem.1 hy
    have := (ha i hi).1
    rw [List.getD_eq_getElem?_getD, List.getElem?_eq_getElem hi] at this
    have h0 : 0 ≤ L[i] := this
    rw [Int.toNat_of_nonneg h0]; exact hy
/-! ## Accepting a row -/
def redE (n : Nat) (t : PT) (L : List Int) : Int := if ascR L n then (match redR (nr L) t with | none => 10 | some _ => 0) else 1
def redT (n : Nat) (t : PT) (L : List Int) : PT := if ascR L n then (redR (nr L) t).getD t else t
def redW (n : Nat) (t : PT) (W : List (List Int)) (L : List Int) : List (List Int) := if ascR L n ∧ L ≠ [] ∧ (redR (nr L) t).isSome = true then W ++ [L] else W
theorem red_bad {n : Nat} {t : PT} {W : List (List Int)} {L : List Int} (h : ¬ ascR L n) : redE n t L = 1 ∧ redT n t L = t ∧ redW n t W L = W :=
  ⟨if_neg h, if_neg h, if_neg fun e => h e.1⟩
theorem red_nil {n : Nat} {t : PT} {W : List (List Int)} {L : List Int} (h : ascR L n) (h0 : L = []) : redE n t L = 0 ∧ redT n t L = t ∧ redW n t W L = W := by
  subst h0
  refine ⟨?_, ?_, if_neg fun e => e.2.1 rfl⟩
  · unfold redE; rw [if_pos h]; rfl
  · unfold redT; rw [if_pos h]; rfl
theorem redR_cons {t : PT} {L : List Int} (h0 : L ≠ []) : redR (nr L) t = red (rowS (nr L)) t := by
  unfold redR; rw [if_neg (fun e => h0 (nr_nil.1 e))]
theorem red_none {n : Nat} {t : PT} {W : List (List Int)} {L : List Int} (h : ascR L n) (h0 : L ≠ []) (e : red (rowS (nr L)) t = none) : redE n t L = 10 ∧ redT n t L = t ∧ redW n t W L = W := by
  rw [← redR_cons h0] at e
  refine ⟨?_, ?_, if_neg fun c => ?_⟩
  · unfold redE; rw [if_pos h, e]
  · unfold redT; rw [if_pos h, e]; rfl
  · rw [e] at c; exact absurd c.2.2 (by simp)
theorem red_some {n : Nat} {t t' : PT} {W : List (List Int)} {L : List Int} (h : ascR L n) (h0 : L ≠ []) (e : red (rowS (nr L)) t = some t') : redE n t L = 0 ∧ redT n t L = t' ∧ redW n t W L = W ++ [L] := by
  rw [← redR_cons h0] at e
  refine ⟨?_, ?_, if_pos ⟨h, h0, by rw [e]; rfl⟩⟩
  · unfold redE; rw [if_pos h, e]
  · unfold redT; rw [if_pos h, e]; rfl
theorem Tn.redT {n : Nat} {t : PT} (h : Tn n t) (L : List Int) : Tn n (Pq.redT n t L) := by
  unfold Pq.redT
  split
  · rename_i ha
    cases e : redR (nr L) t with
    | none => exact h
    | some t' => exact h.red (nr_lt ha) e
  · exact h
theorem Tn.lvs_len {n : Nat} {t : PT} (h : Tn n t) : (Pq.lvs t).length = n := by rw [h.2.length_eq, List.length_range]
/-- The tree behind a row, in memory. -/
structure Nxt (n : Nat) (t : PT) (W : List (List Int)) (L : List Int) (e : Int) (t' : PT) (W' : List (List Int)) : Prop where
  he : e = redE n t L
  ht : t' = Pq.redT n t L
  hw : W' = redW n t W L
theorem Nxt.of {n : Nat} {t : PT} {W : List (List Int)} {L : List Int} {e : Int} {t' : PT} {W' : List (List Int)} (h : redE n t L = e ∧ Pq.redT n t L = t' ∧ redW n t W L = W') : Nxt n t W L e t' W' := ⟨h.1.symm, h.2.1.symm, h.2.2.symm⟩
end Go.Fw.Pq
