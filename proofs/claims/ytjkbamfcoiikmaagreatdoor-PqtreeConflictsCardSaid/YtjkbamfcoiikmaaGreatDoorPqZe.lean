/- Chapter 28: the search finds an order just where there is one. Plain. -/
import Derived.Test.YtjkbamfcoiikmaaGreatDoorPqZd
namespace Go.Fw.Pq
open Go Go.RowKit Go.Fw
def seen (R : List Int) (b : List Nat) : Nat := (b.filter (rowS (nr R))).length
/-- A beginning with which a row may still stand together. -/
def vbl (R : List Int) (b : List Nat) : Prop := EF (rowS (nr R)) b ∨ (Cn (rowS (nr R)) b ∧ seen R b = R.length)
theorem seen_app (R : List Int) (a b : List Nat) : seen R (a ++ b) = seen R a + seen R b := by unfold seen; rw [List.filter_append, List.length_append]
theorem seen_non {R : List Int} {b : List Nat} (h : non (rowS (nr R)) b) : seen R b = 0 := by unfold seen; rw [filter_non h]; rfl
theorem seen_non' {R : List Int} {b : List Nat} (h : seen R b = 0) : non (rowS (nr R)) b := fun x hx => by
  have h1 := List.filter_eq_nil_iff.1 (List.eq_nil_of_length_eq_zero h) x hx
  simpa using h1
theorem seen_all {R : List Int} {n : Nat} {p : List Nat} (ha : ascR R n) (hp : p.Perm (List.range n)) : seen R p = R.length := by
  have hmem : ∀ x, rowS (nr R) x = true ↔ x ∈ nr R := fun x => by unfold rowS; rw [List.contains_iff_mem]
  have h1 : (p.filter (rowS (nr R))).Perm (nr R) := by
    refine (List.perm_ext_iff_of_nodup ((hp.nodup_iff.2 List.nodup_range).filter _) (nr_nodup ha)).2 fun x => ?_
    rw [List.mem_filter, hmem]
    exact ⟨fun h => h.2, fun h => ⟨hp.mem_iff.2 (List.mem_range.2 (nr_lt ha x h)), h⟩⟩
  unfold seen
  rw [h1.length_eq]; exact List.length_map _
theorem seen_le {R : List Int} {b : List Nat} (hb : b.Nodup) : seen R b ≤ R.length := by
  have h1 : (b.filter (rowS (nr R))).length ≤ (nr R).length := sub_length (hb.filter _) fun x hx => by
    have := (List.mem_filter.1 hx).2
    unfold rowS at this
    rwa [List.contains_iff_mem] at this
  exact Nat.le_trans h1 (Nat.le_of_eq (List.length_map _))
theorem EF_cn {S : Nat → Bool} {b : List Nat} (h : EF S b) : Cn S b := by
  obtain ⟨u, v, e, hu, hv⟩ := h
  exact ⟨u, v, [], by rw [List.append_nil]; exact e, hu, hv, non_nil⟩
theorem vbl_pre {R : List Int} {n : Nat} {b q : List Nat} (ha : ascR R n) (hp : (b ++ q).Perm (List.range n)) (h : Cn (rowS (nr R)) (b ++ q)) : vbl R b := by
  rcases Cn_app.1 h with ⟨h1, _⟩ | ⟨h1, h2⟩ | ⟨h1, _⟩
  · exact .inl h1.ef
  · refine .inr ⟨h1, ?_⟩
    have := seen_all ha hp
    rw [seen_app, seen_non h2] at this
    omega
  · exact .inl h1
theorem vbl_cn {R : List Int} {b : List Nat} (h : vbl R b) : Cn (rowS (nr R)) b := h.elim EF_cn fun h => h.1
theorem seen_one_t {R : List Int} {c : Nat} (h : rowS (nr R) c = true) : seen R [c] = 1 := by unfold seen; rw [List.filter_cons, if_pos h]; rfl
theorem seen_one_f {R : List Int} {c : Nat} (h : rowS (nr R) c = false) : seen R [c] = 0 := by unfold seen; rw [List.filter_cons, if_neg (by rw [h]; exact Bool.false_ne_true)]; rfl
theorem non_one {S : Nat → Bool} {c : Nat} (h : S c = false) : non S [c] := fun x hx => by rw [List.mem_singleton.1 hx]; exact h
theorem vbl_step {R : List Int} {b : List Nat} {c : Nat} (hb : (b ++ [c]).Nodup) (h : vbl R b) (hf : rowS (nr R) c = true ∨ seen R b = R.length ∨ seen R b = 0) : vbl R (b ++ [c]) := by
  by_cases hs : rowS (nr R) c = true
  · rcases h with ⟨u, v, e, hu, hv⟩ | ⟨_, h2⟩
    · refine .inl ⟨u, v ++ [c], by rw [e, List.append_assoc], hu, al_app.2 ⟨hv, fun x hx => by rw [List.mem_singleton.1 hx]; exact hs⟩⟩
    · have := seen_le (R := R) hb
      rw [seen_app, seen_one_t hs] at this
      omega
  · have hs' : rowS (nr R) c = false := by simpa using hs
    rcases hf with h1 | h1 | h1
    · exact absurd h1 hs
    · refine .inr ⟨Cn_app.2 (.inr (.inl ⟨vbl_cn h, non_one hs'⟩)), ?_⟩
      rw [seen_app, seen_one_f hs', h1]; rfl
    · exact .inl (non_app.2 ⟨seen_non' h1, non_one hs'⟩).ef
theorem vbl_fit {R : List Int} {b : List Nat} {c : Nat} (h : vbl R (b ++ [c])) : rowS (nr R) c = true ∨ seen R b = R.length ∨ seen R b = 0 := by
  by_cases hs : rowS (nr R) c = true
  · exact .inl hs
  · have hs' : rowS (nr R) c = false := by simpa using hs
    rcases h with h | ⟨_, h2⟩
    · rcases (EF_app (S := rowS (nr R))).1 h with ⟨h1, _⟩ | ⟨_, h2⟩
      · exact .inr (.inr (seen_non h1))
      · have := h2 c List.mem_cons_self
        rw [hs'] at this; cases this
    · rw [seen_app, seen_one_f hs'] at h2
      exact .inr (.inl (by omega))
theorem perm_of_len {n : Nat} {b : List Nat} (hb : b.Nodup) (hl : ∀ x ∈ b, x < n) (hlen : b.length = n) : b.Perm (List.range n) := by
  refine (List.perm_ext_iff_of_nodup hb List.nodup_range).2 fun x => ⟨fun hx => List.mem_range.2 (hl x hx), fun hx => Decidable.byContradiction fun hxb => ?_⟩
  have h1 := sub_length (m := List.range n) (List.nodup_cons.2 ⟨hxb, hb⟩) fun y hy => (List.mem_cons.1 hy).elim (fun e => e ▸ hx) fun h => List.mem_range.2 (hl y h)
  rw [List.length_cons, List.length_range] at h1
  omega
theorem fnd_iff {n : Nat} {l : List Rw} (hv : valR n l) : ∀ (f : Nat) (b : List Nat) (lf : List Int), b.length + f = n → b.Nodup → (∀ x ∈ b, x < n) → lf.length = l.length →
    (∀ i, i < l.length → lf.getD i 0 = ((l.getD i dR).L.length : Int) - (seen (l.getD i dR).L b : Int)) → (∀ i, i < l.length → vbl (l.getD i dR).L b) →
    (fnd n l f (zs b) lf = true ↔ ∃ q, (b ++ q).Perm (List.range n) ∧ ∀ i, i < l.length → Cn (rowS (nr (l.getD i dR).L)) (b ++ q))
  | 0, b, lf, hlen, hb, hl, _, _, hvb => by
    refine ⟨fun _ => ⟨[], by rw [List.append_nil]; exact perm_of_len hb hl hlen, fun i hi => by rw [List.append_nil]; exact vbl_cn (hvb i hi)⟩, fun _ => rfl⟩
  | f + 1, b, lf, hlen, hb, hl, hll, hlf, hvb => by
    have hfit : ∀ c, fitC l c lf ↔ ∀ i, i < l.length → (rowS (nr (l.getD i dR).L) c = true ∨ seen (l.getD i dR).L b = (l.getD i dR).L.length ∨ seen (l.getD i dR).L b = 0) := fun c => by
      refine forall_congr' fun i => forall_congr' fun hi => ?_
      unfold fitR
      rw [row_mem (hv i hi), hlf i hi]
      have := seen_le (R := (l.getD i dR).L) hb
      refine or_congr Iff.rfl ⟨fun h => ?_, fun h => ?_⟩ <;> omega
    have hstep : ∀ c, c < n → c ∉ b → fitC l c lf → (fnd n l f (zs (b ++ [c])) (nxtL l c lf) = true ↔ ∃ q, (b ++ [c] ++ q).Perm (List.range n) ∧ ∀ i, i < l.length → Cn (rowS (nr (l.getD i dR).L)) (b ++ [c] ++ q)) := fun c hc hcb hfc => by
      have hnd : (b ++ [c]).Nodup := List.nodup_append.2 ⟨hb, by simp, fun x hx y hy e => by rw [List.mem_singleton.1 hy] at e; exact hcb (e ▸ hx)⟩
      refine fnd_iff hv f (b ++ [c]) (nxtL l c lf) (by rw [List.length_append, List.length_singleton]; omega) hnd (fun x hx => (List.mem_append.1 hx).elim (hl x) fun h => by rw [List.mem_singleton.1 h]; exact hc) (by rw [nxtP_len]; exact hll) (fun i hi => ?_) fun i hi => vbl_step hnd (hvb i hi) ((hfit c).1 hfc i hi)
      rw [nxtP_get l c lf l.length i hi (by omega), hlf i hi, seen_app]
      by_cases hs : rowS (nr (l.getD i dR).L) c = true
      · rw [if_pos ((row_mem (hv i hi)).2 hs), seen_one_t hs]; omega
      · rw [if_neg (fun e => hs ((row_mem (hv i hi)).1 e)), seen_one_f (by simpa using hs)]; omega
    rw [fnd, List.any_eq_true]
    constructor
    · rintro ⟨c, hc, h⟩
      rw [Bool.and_eq_true, decide_eq_true_eq, zs_mem, ← zs_snoc] at h
      obtain ⟨q, h1, h2⟩ := (hstep c (List.mem_range.1 hc) h.1.1 h.1.2).1 h.2
      exact ⟨c :: q, by rw [List.append_cons]; exact h1, fun i hi => by rw [List.append_cons]; exact h2 i hi⟩
    · rintro ⟨q, h1, h2⟩
      cases q with
      | nil =>
        rw [List.append_nil] at h1
        have := h1.length_eq
        rw [List.length_range] at this
        omega
      | cons c q =>
        rw [List.append_cons] at h1 h2
        have hnd : (b ++ [c] ++ q).Nodup := h1.nodup_iff.2 List.nodup_range
        have hnd1 := (List.nodup_append.1 hnd).1
        have hcb : c ∉ b := fun h => (List.nodup_append.1 hnd1).2.2 c h c (List.mem_singleton.2 rfl) rfl
        have hc : c < n := List.mem_range.1 (h1.mem_iff.1 (List.mem_append_left _ (List.mem_append_right _ List.mem_cons_self)))
        have hfc : fitC l c lf := (hfit c).2 fun i hi => vbl_fit (vbl_pre (hv i hi) h1 (h2 i hi))
        refine ⟨c, List.mem_range.2 hc, ?_⟩
        rw [Bool.and_eq_true, decide_eq_true_eq, zs_mem, ← zs_snoc]
        exact ⟨⟨hcb, hfc⟩, (hstep c hc hcb hfc).2 ⟨q, h1, h2⟩⟩
theorem pos_iff {n : Nat} {l : List Rw} : posP n l ↔ valR n l ∧ ∃ p : List Nat, p.Perm (List.range n) ∧ ∀ i, i < l.length → Con (nr (l.getD i dR).L) p := by
  unfold posP
  refine and_congr_right fun hv => ?_
  have h := fnd_iff hv n [] (lensL l) (Nat.zero_add _) List.nodup_nil (fun x hx => by cases hx) (lensL_len l) (fun i hi => by rw [lensL_get hi]; show _ = _ - ((0 : Nat) : Int); omega) (fun i hi => .inl ⟨[], [], rfl, non_nil, al_nil⟩)
  exact h
end Go.Fw.Pq
