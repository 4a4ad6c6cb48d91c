/- Chapter 18: agreement; specimens that are not common. Plain. -/
import Derived.Test.YtfkfmpfohaomhaaGreatCoM
namespace Go.Fw
open Go Go.RowKit Go.Nat9
def agRow (l : List Pr) (i : Nat) : Nat → Int
  | 0 => 0
  | k + 1 => agRow l i k + if decide ((l.getD i dP).1 = (l.getD k dP).1) = decide ((l.getD i dP).2 = (l.getD k dP).2) then 1 else 0
def agS (l : List Pr) : Nat → Int
  | 0 => 0
  | i + 1 => agS l i + agRow l i i
def alS : Nat → Int
  | 0 => 0
  | i + 1 => alS i + (i : Int)
theorem agRow_yes {l : List Pr} {i k : Nat} (h : decide ((l.getD i dP).1 = (l.getD k dP).1) = decide ((l.getD i dP).2 = (l.getD k dP).2)) : agRow l i (k + 1) = agRow l i k + 1 := by rw [agRow, if_pos h]
theorem agRow_no {l : List Pr} {i k : Nat} (h : ¬ decide ((l.getD i dP).1 = (l.getD k dP).1) = decide ((l.getD i dP).2 = (l.getD k dP).2)) : agRow l i (k + 1) = agRow l i k := by rw [agRow, if_neg h]; omega
theorem agRow_in (l : List Pr) (i : Nat) : ∀ k, 0 ≤ agRow l i k ∧ agRow l i k ≤ k
  | 0 => by simp [agRow]
  | k + 1 => by
    have ih := agRow_in l i k
    rw [agRow]
    split <;> omega
theorem agS_in (l : List Pr) : ∀ i, 0 ≤ agS l i ∧ agS l i ≤ alS i
  | 0 => by simp [agS, alS]
  | i + 1 => by
    have ih := agS_in l i
    have h := agRow_in l i i
    rw [agS, alS]; omega
theorem alS_in : ∀ i : Nat, 0 ≤ alS i ∧ alS i ≤ 1000000 * (i : Int) ∨ 1000000 < i
  | 0 => by simp [alS]
  | i + 1 => by
    have ih := alS_in i
    rw [alS]; omega
def errG (a b : List Spc) (side : Int) : Int := if errP a b side ≠ 0 then errP a b side else if (prsS a b side).length < 2 then 7 else 0
def agO (a b : List Spc) (side : Int) : Option Rat := if errG a b side = 0 then some (ofq (agS (prsS a b side) (prsS a b side).length) (alS (prsS a b side).length)) else none
theorem errG_p {a b : List Spc} {side : Int} (h : errP a b side ≠ 0) : errG a b side = errP a b side := if_pos h
theorem errG_7 {a b : List Spc} {side : Int} (h : ¬ errP a b side ≠ 0) (h2 : (prsS a b side).length < 2) : errG a b side = 7 := by unfold errG; rw [if_neg h, if_pos h2]
theorem errG_0 {a b : List Spc} {side : Int} (h : ¬ errP a b side ≠ 0) (h2 : ¬ (prsS a b side).length < 2) : errG a b side = 0 := by unfold errG; rw [if_neg h, if_neg h2]
theorem agO_no {a b : List Spc} {side : Int} (h : errG a b side ≠ 0) : agO a b side = none := if_neg h
theorem agO_yes {a b : List Spc} {side : Int} (h : errG a b side = 0) : agO a b side = some (ofq (agS (prsS a b side) (prsS a b side).length) (alS (prsS a b side).length)) := if_pos h
theorem scells_snoc (l : List Spc) (x : Spc) : scells l ++ sc x = scells (l ++ [x]) := by rw [scells_app]; simp [scells]
/-! ## Only the common specimens -/
def onlyC (a b : List Spc) : List Spc := a.filter fun x => decide (x.id ∈ comS a b)
theorem filter_step {f : Spc → Bool} {l : List Spc} {i : Nat} (h : i < l.length) : (l.take (i + 1)).filter f = (l.take i).filter f ++ if f (l.getD i dS) = true then [l.getD i dS] else [] := by
  rw [takeS_succ h, List.filter_append, List.filter_cons]
  split <;> rfl
section
variable {a b : List Spc} (h : errC a b = 0)
include h
theorem mem_com {x : Int} : x ∈ comS a b ↔ x ∈ idsS a ∧ (findS b x).isSome = true := by
  rw [comS_yes h, mem_srtI]; unfold comI; rw [List.mem_filter]
theorem only_ids : idsS (onlyC a b) = comI a b := by
  unfold onlyC idsS comI idsS
  rw [List.filter_map]
  congr 1
  refine List.filter_congr fun x hx => ?_
  simp only [Function.comp]
  by_cases hs : (findS b x.id).isSome = true
  · rw [hs, decide_eq_true ((mem_com h).2 ⟨List.mem_map.2 ⟨x, hx, rfl⟩, hs⟩)]
  · have h2 : (findS b x.id).isSome = false := by simpa using hs
    rw [h2, decide_eq_false fun h3 => hs ((mem_com h).1 h3).2]
theorem only_comI : comI (onlyC a b) b = comI a b := by
  unfold comI
  rw [only_ids h]
  unfold comI
  rw [List.filter_filter]
  refine List.filter_congr fun x _ => ?_
  simp
theorem only_err (ha : errS a = 0) (hb : errS b = 0) : errS (onlyC a b) = 0 := by
  have hn := (errC_ids h).1
  have hl : ¬ 64 < a.length := by
    intro hc; rw [errS_full hc] at ha; cases ha
  have hok : ∀ s ∈ a, okS s := by
    intro s hs
    refine Classical.byContradiction fun hc => ?_
    unfold errS at ha
    rw [if_neg hl, if_pos ⟨s, hs, hc⟩] at ha
    cases ha
  have _ := hb
  have hll : (onlyC a b).length ≤ a.length := List.length_filter_le _ _
  unfold errS
  rw [if_neg (by omega), if_neg, if_pos]
  · rw [only_ids h]; exact hn.sublist List.filter_sublist
  · rintro ⟨s, hs, hc⟩
    exact hc (hok s (List.mem_filter.1 hs).1)
theorem only_errC (ha : errS a = 0) (hb : errS b = 0) : errC (onlyC a b) b = 0 := by
  unfold errC
  rw [if_neg (by rw [only_err h ha hb]; simp), hb]
theorem only_com (ha : errS a = 0) (hb : errS b = 0) : comS (onlyC a b) b = comS a b := by
  rw [comS_yes (only_errC h ha hb), comS_yes h, only_comI h]
theorem only_cpl {side : Int} {x : Int} (hx : x ∈ comS a b) : cplF (onlyC a b) b side x = cplF a b side x := by
  have hn := (errC_ids h).1
  obtain ⟨s, hs, rfl⟩ := List.mem_map.1 ((mem_com h).1 hx).1
  have hs2 : s ∈ onlyC a b := List.mem_filter.2 ⟨hs, decide_eq_true hx⟩
  have hn2 : (idsS (onlyC a b)).Nodup := by rw [only_ids h]; exact hn.sublist List.filter_sublist
  unfold cplF
  rw [findS_self hn hs, findS_self hn2 hs2]
theorem only_errP {side : Int} (ha : errS a = 0) (hb : errS b = 0) : errP (onlyC a b) b side = errP a b side := by
  unfold errP
  rw [only_errC h ha hb, h]
theorem only_prs {side : Int} (ha : errS a = 0) (hb : errS b = 0) : prsS (onlyC a b) b side = prsS a b side := by
  unfold prsS
  rw [only_errP h ha hb, only_com h ha hb]
  split
  · exact List.map_congr_left fun x hx => only_cpl h hx
  · rfl
theorem only_all {side : Int} (ha : errS a = 0) (hb : errS b = 0) : mtS (onlyC a b) b side = mtS a b side ∧ errG (onlyC a b) b side = errG a b side ∧ agO (onlyC a b) b side = agO a b side ∧ errB (onlyC a b) b side = errB a b side ∧ bstS (onlyC a b) b side = bstS a b side ∧ bstN (onlyC a b) b side = bstN a b side := by
  have e1 := only_prs h (side := side) ha hb
  have e2 := only_errP h (side := side) ha hb
  have e3 : errG (onlyC a b) b side = errG a b side := by unfold errG; rw [e1, e2]
  have e4 : errB (onlyC a b) b side = errB a b side := by unfold errB; rw [e1, e2]
  refine ⟨by unfold mtS; rw [e1], e3, by unfold agO; rw [e1, e3], e4, by unfold bstS; rw [e1, e4], by unfold bstN; rw [e1, e4]⟩
theorem only_len : (onlyC a b).length = (comS a b).length := by
  have h1 := congrArg List.length (only_ids h)
  unfold idsS at h1
  rw [List.length_map] at h1
  rw [h1, comS_yes h, srtI_len]
end
theorem errC_of {a b : List Spc} (ha : errS a = 0) (hb : errS b = 0) : errC a b = 0 := by unfold errC; rw [if_neg (by rw [ha]; simp), hb]
end Go.Fw
namespace Go.Fw
open Go.Nat9
theorem qs_agO (a b : List Spc) (side : Int) (ha : a.length ≤ 1000) : qs (fval (agO a b side)) 1000000000 := by
  unfold agO
  split
  · have hl := prsS_len a b side
    have hag := agS_in (prsS a b side) (prsS a b side).length
    have hal := alS_in (prsS a b side).length
    have h := qs_ofq (n := agS (prsS a b side) (prsS a b side).length) (d := alS (prsS a b side).length) (by omega) (by omega)
    exact ⟨Nat.le_trans h.1 (by decide), Nat.le_trans h.2 (by decide)⟩
  · exact ⟨Nat.le_trans qs_zero.1 (by decide), Nat.le_trans qs_zero.2 (by decide)⟩
end Go.Fw
