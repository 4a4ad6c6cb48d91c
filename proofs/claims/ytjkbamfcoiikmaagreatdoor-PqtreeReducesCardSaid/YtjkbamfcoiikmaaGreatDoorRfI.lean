/- Chapter 28: the reference's number of orders; its first order; plain. -/
import Derived.Test.YtjkbamfcoiikmaaGreatDoorRfD
namespace Go.Fw.Pq
open Go Go.RowKit Go.Fw Go.Nat9
def dl (t : AT) : Nat := if t.line then 2 else 1
theorem dl_two {t : AT} (h : t.kind = 2) : dl t = 2 := if_pos (kd_two.1 h).2
theorem dl_one {t : AT} (hf : Fit t) (h : ¬ t.kind = 2) : dl t = 1 := by
  refine if_neg fun e => h (kd_two.2 ⟨?_, e⟩)
  have := fit3 hf e
  omega
theorem dl_le (t : AT) : dl t < 1000000000 := by unfold dl; split <;> decide
theorem cnt_end {t : AT} {i o x dv : Nat} (hf : Fit t) (h : CI t.line t.kids i o) (hi : t.kids.length ≤ i) (hx : x = o * dv) (hd : dv = dl t) : cntT (er t) = x := by
  have he := h.eq
  rw [List.take_of_length_le hi] at he
  subst hx hd
  match t, hf, he with
  | .mk b n true ad cap ks, hf, he => exact cnt_mk_Q rfl hf he
  | .mk b n false ad cap ks, hf, he => rw [cnt_mk_P rfl hf he]; exact (Nat.mul_one o).symm
theorem ciQ {t : AT} {i o : Nat} (h : CI t.line t.kids i o) (hi : i < t.kids.length) (hq : t.line = true) : CI t.line t.kids (i + 1) (o * cntT (er (t.kids.getD i default))) := by
  have := h.step hi
  rw [hq, if_pos rfl, Nat.mul_one] at this
  rw [hq]; exact this
theorem ciP {t : AT} {i o : Nat} (h : CI t.line t.kids i o) (hi : i < t.kids.length) (hq : t.line = false) : CI t.line t.kids (i + 1) (o * cntT (er (t.kids.getD i default)) * (i + 1)) := by
  have := h.step hi
  rw [hq, if_neg Bool.false_ne_true] at this
  rw [hq]; exact this
theorem line_t {t : AT} (h0 : t.kids.length ≠ 0) (h : ¬ t.kind = 1) : t.line = true := by
  cases e : t.line with
  | true => rfl
  | false => exact absurd (kd_one.2 ⟨h0, e⟩) h
theorem nA_kids {t : AT} (hL : (lvs (er t)).length ≤ 1000) : nA t.kids ≤ 1000 := by
  by_cases c : t.kids.length = 0
  · rw [List.length_eq_zero_iff.1 c]; exact Nat.zero_le _
  · rw [← nA_kn c]; exact hL
/-! ## The first order -/
theorem hd_flat {P : List Rw} (h0 : 0 < P.length) (hP : HdD P) : hdI (P.flatMap Rw.L) = hdI (P.getD 0 dR).L ∧ P.flatMap Rw.L ≠ [] := by
  match P, h0 with
  | r :: P, _ =>
    have := hP.ne r List.mem_cons_self
    match hr : r.L, this with
    | x :: L, _ => rw [List.flatMap_cons, hr]; exact ⟨rfl, by simp⟩
theorem HdD.rev {P : List Rw} (h : HdD P) : HdD P.reverse := ⟨fun r hr => h.ne r (List.mem_reverse.1 hr), by rw [List.map_reverse]; exact ((List.reverse_perm _).nodup_iff).2 h.nd⟩
theorem getD_revR {l : List Rw} {i : Nat} (h : i < l.length) : l.reverse.getD i dR = l.getD (l.length - 1 - i) dR := by
  rw [List.getD_eq_getElem?_getD, List.getElem?_reverse h, List.getD_eq_getElem?_getD]
/-- Which of both directions stands first. -/
theorem less_dir {P : List Rw} {r : Bool} (h2 : 2 ≤ P.length) (hP : HdD P) (hr : LsR (P.reverse.flatMap Rw.L) (P.flatMap Rw.L) r) : r = true ↔ hdI (P.getD (P.length - 1) dR).L < hdI (P.getD 0 dR).L := by
  obtain ⟨e1, n1⟩ := hd_flat (by omega) hP
  obtain ⟨e2, n2⟩ := hd_flat (P := P.reverse) (by rw [List.length_reverse]; omega) hP.rev
  rw [getD_revR (by omega), Nat.sub_zero] at e2
  have := hr.head n2 n1 (by
    rw [e1, e2]
    intro e
    have := hP.inj (by omega) (by omega) e
    omega)
  rw [e1, e2] at this
  exact this
theorem revR_take {l : List Rw} {j : Nat} (h : j < l.length) : l.reverse.take (j + 1) = l.reverse.take j ++ [l.getD (l.length - 1 - j) dR] := by
  rw [takeR_succ (by rw [List.length_reverse]; exact h), getD_revR h]
theorem PI.lineP {t : AT} {P D : List Rw} (h : PI t.kids t.kids.length P) (h0 : t.kids.length ≠ 0) (hq : t.line = true) (hD : D = if hdI (P.getD (t.kids.length - 1) dR).L < hdI (P.getD 0 dR).L then P.reverse else P) : D.flatMap Rw.L = zs (fstT (er t)) := by
  match t, h, h0, hq, hD with
  | .mk b n true ad cap ks, h, h0, _, hD => exact h.line (kids_ne h0) hD
theorem PI.anyP {t : AT} {P D : List Rw} (h : PI t.kids t.kids.length P) (h0 : t.kids.length ≠ 0) (hf : Fit t) (hq : t.line = false) (hn : (lvs (er t)).Nodup) (hp : D.Perm P) (hs : ∀ i j, i < j → j < D.length → hdI (D.getD i dR).L ≤ hdI (D.getD j dR).L) : D.flatMap Rw.L = zs (fstT (er t)) := by
  match t, h, h0, hf, hq, hn with
  | .mk b n false ad cap ks, h, h0, hf, _, hn => exact h.any (kids_ne h0) hf.kids hn hp hs
theorem fst_lf {t : AT} (h : t.kids.length = 0) : zs (fstT (er t)) = [(t.col : Int)] := by rw [er_lf h]; rfl
theorem Mn.zero {l : List Rw} (h : 0 < l.length) : Mn l 0 0 := ⟨h, fun _ hj => absurd hj (Nat.not_lt_zero _)⟩
theorem rwsTake {X : Nat → Prop} {w : World} {ad : Option Addr} {l : List Rw} (k : Nat) (h : (vCells ad (rws l)).holds X w) : (vCells ad (rws (l.take k))).holds X w := by
  intro j u hj
  rw [List.getElem?_map, List.getElem?_take] at hj
  split at hj
  · exact h j u (by rw [List.getElem?_map]; exact hj)
  · cases hj
theorem rwsDrop {X : Nat → Prop} {w : World} {ad : Option Addr} {l : List Rw} (c k : Nat) (hc : l.length ≤ c) (h : (vCells ad (rws l)).holds X w) : (vCells (subAd ad c k 1) (rws (l.drop k))).holds X w := by
  intro j u hj
  rw [List.getElem?_map, List.getElem?_drop] at hj
  obtain ⟨b, o, he, hX, hcell⟩ := h (k + j) u (by rw [List.getElem?_map]; exact hj)
  have hlt : k + j < l.length := by
    cases e : l[k + j]? with
    | none => rw [e] at hj; cases hj
    | some r => exact (List.getElem?_eq_some_iff.1 e).1
  subst he
  unfold subAd
  split
  · rename_i e; omega
  · exact ⟨b, o + k * 1, by simp [Addr.add], hX, by rw [Nat.mul_one, Nat.add_assoc]; exact hcell⟩
theorem sm_PI {t : AT} {P : List Rw} (h : PI t.kids t.kids.length P) (hf : Fit t) (hn : ∀ k ∈ t.kids, (lvs (er k)).Nodup) : sm P = nA t.kids := flat_len h (fitK hf) hn (.refl _)
end Go.Fw.Pq
