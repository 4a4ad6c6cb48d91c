/- Chapter 28: texts: what the loop over the kids makes; numbers and joined texts out of the library. -/
import Derived.Test.YtjkbamfcoiikmaaGreatDoorPqT
import Derived.Test.YtjkbamfcoiikmaaGreatDoorPqKM
import Derived.Test.YtjkbamfcoiikmaaGreatDoorShJ
namespace Go.Fw.Pq
open Go Go.RowKit Go.Fw
abbrev dd : Nat → List UInt8 := Lib.decDigits
abbrev tx (t : AT) : List UInt8 := textT dd (er t)
abbrev bs (l : List UInt8) : ByteArray := ⟨l.toArray⟩
abbrev strs (l : List (List UInt8)) : List Value := l.map fun x => .string (bs x)
theorem strs_one (l : List (List UInt8)) : AllOne (strs l) := fun v hv => by
  obtain ⟨x, _, rfl⟩ := List.mem_map.1 hv
  rfl
theorem strs_length (l : List (List UInt8)) : (strs l).length = l.length := List.length_map _
theorem strs_app (l m : List (List UInt8)) : strs l ++ strs m = strs (l ++ m) := List.map_append.symm
theorem bs_app (a b : List UInt8) : bs a ++ bs b = bs (a ++ b) := ByteArray.mk_append_mk a b
theorem bs_size (a : List UInt8) : (bs a).size = a.length := by show a.toArray.size = _; simp
theorem jn_join (s : List UInt8) : ∀ l : List (List UInt8), jn s l = Lib.join l s
  | [] => rfl
  | [x] => (Lib.join_one x s).symm
  | x :: y :: l => by
    rw [jn, jn_join s (y :: l), Lib.join_cons, Lib.join_cons]
    simp [Lib.joinTail]
theorem dd_len {n : Nat} (h : n < 100) : (dd n).length ≤ 2 := by
  have h1 : ∀ m, m < 10 → (Lib.decDigits m).length = 1 := fun m hm => by rw [Lib.decDigits]; simp [hm]
  show (Lib.decDigits n).length ≤ 2
  by_cases c : n < 10
  · rw [h1 n c]; omega
  · rw [Lib.decDigits, dif_neg c, List.length_append, h1 _ (by omega)]; simp
theorem jn_len {s : List UInt8} (hs : s.length = 1) : ∀ l : List (List UInt8), l ≠ [] → (jn s l).length + 1 = (l.map List.length).sum + l.length
  | [], h => absurd rfl h
  | [x], _ => by simp [jn]
  | x :: y :: l, _ => by
    have := jn_len hs (y :: l) (by simp)
    rw [jn]
    simp only [List.length_append, List.map_cons, List.sum_cons, List.length_cons, hs] at *
    omega
theorem sum_le {α : Type} {f g : α → Nat} {c : Nat} : ∀ {l : List α}, (∀ x ∈ l, f x + c ≤ g x) → (l.map f).sum + c * l.length ≤ (l.map g).sum
  | [], _ => by simp
  | x :: l, h => by
    have h1 := h x List.mem_cons_self
    have h2 := sum_le (l := l) fun y hy => h y (List.mem_cons_of_mem _ hy)
    simp only [List.map_cons, List.sum_cons, List.length_cons, Nat.mul_add, Nat.mul_one]
    omega
theorem nl_sum : ∀ l : List PT, (l.map fun k => 5 * (lvs k).length).sum = 5 * nl l
  | [] => rfl
  | k :: l => by rw [List.map_cons, List.sum_cons, nl_sum l, nl_cons]; omega
/-- The kids in the order of the text. -/
def KO (d : Nat → List UInt8) (t : PT) (K : List PT) (op en : List UInt8) : Prop := textT d t = op ++ jn [32] (K.map (textT d)) ++ en
theorem KO.line {d : Nat → List UInt8} {ks : List PT} (h : ks ≠ []) : KO d (.nd true ks) (if lst (ks.getLastD default) < lst (ks.headD default) then ks.reverse else ks) [91] [93] := by
  unfold KO
  rw [textT, textL_map]
  congr 3
  unfold ordQ
  rw [getLastD_map (pr d) default _ h, headD_map (pr d) default _ h]
  show List.map _ (if lst (ks.getLastD default) < lst (ks.headD default) then _ else _) = _
  split
  · rw [← List.map_reverse, List.map_map]; rfl
  · rw [List.map_map]; rfl
theorem sorted_lt {ks K : List PT} (ok : ∀ k ∈ ks, Ok k) (hn : (ks.flatMap lvs).Nodup) (hp : K.Perm ks) (hs : ∀ i j, i < j → j < K.length → lst (K.getD i default) ≤ lst (K.getD j default)) : K.Pairwise fun a b => lst a < lst b := by
  have okK : ∀ k ∈ K, Ok k := fun k hk => ok k (hp.mem_iff.1 hk)
  have hnK := perm_nodup hp hn
  have hd := kids_nodup okK hnK
  have ap := apart_of hnK
  refine List.pairwise_iff_getElem.2 fun i j hi hj hij => ?_
  have h1 := hs i j hij hj
  rw [List.getD_eq_getElem?_getD, List.getD_eq_getElem?_getD, List.getElem?_eq_getElem hi, List.getElem?_eq_getElem hj] at h1
  have h2 : lst K[i] ≤ lst K[j] := h1
  refine Nat.lt_of_le_of_ne h2 fun e => ?_
  have m1 := (lst_spec (okK _ (List.getElem_mem hi))).1
  have m2 := (lst_spec (okK _ (List.getElem_mem hj))).1
  rw [← e] at m2
  have := ap _ (List.getElem_mem hi) _ (List.getElem_mem hj) _ m1 m2
  exact (List.pairwise_iff_getElem.1 hd i j hi hj hij) this
theorem KO.any {d : Nat → List UInt8} {ks K : List PT} (ok : ∀ k ∈ ks, Ok k) (hn : (ks.flatMap lvs).Nodup) (hp : K.Perm ks) (hs : ∀ i j, i < j → j < K.length → lst (K.getD i default) ≤ lst (K.getD j default)) : KO d (.nd false ks) K [40] [41] := by
  unfold KO
  rw [textT, textL_map]
  congr 3
  have h1 := sorted_lt ok hn hp hs
  rw [ordP_eq (ps := ks.map (pr d)) (ps' := K.map (pr d)) (hp.map _) (List.pairwise_map.2 h1), List.map_map]; rfl
theorem text_len {t : PT} (h : Ok t) : (∀ x ∈ lvs t, x < 100) → (textT dd t).length + 3 ≤ 5 * (lvs t).length := by
  induction t using PT.ind with
  | h1 n =>
    intro hx
    have := dd_len (hx n List.mem_cons_self)
    rw [textT, lvs]
    show (dd n).length + 3 ≤ 5 * 1
    omega
  | h2 q ks ih =>
    intro hx
    have h2 := h.two
    have hk : ∀ k ∈ ks, (textT dd k).length + 3 ≤ 5 * (lvs k).length := fun k hk => ih k hk (h.kids k hk) fun x hx' => hx x (by rw [lvs_nd]; exact List.mem_flatMap.2 ⟨k, hk, hx'⟩)
    have hs := sum_le hk
    rw [nl_sum] at hs
    have hsm : ∀ K : List (Nat × List UInt8), K.Perm (ks.map (pr dd)) → (jn [32] (K.map (·.2))).length + 1 = (ks.map fun k => (textT dd k).length).sum + ks.length := fun K hK => by
      have hl := hK.length_eq
      rw [List.length_map] at hl
      rw [jn_len rfl _ (by intro e; have := congrArg List.length e; simp at this; subst this; simp at hl; omega)]
      have e1 : ((K.map (·.2)).map List.length).sum = ((ks.map (pr dd)).map fun p => p.2.length).sum := by
        rw [List.map_map]; exact (hK.map _).sum_nat
      rw [e1, List.map_map, List.length_map, hl]; rfl
    rw [lvs_nd]
    show _ ≤ 5 * nl ks
    cases q with
    | true =>
      have := hsm (ordQ (textL dd ks)) (by rw [textL_map]; unfold ordQ; split; exact List.reverse_perm _; exact .refl _)
      rw [textT]
      simp only [List.length_append, List.length_singleton]
      omega
    | false =>
      have := hsm (ordP (textL dd ks)) (by rw [textL_map]; exact List.mergeSort_perm _ _)
      rw [textT]
      simp only [List.length_append, List.length_singleton]
      omega
theorem nodup_kid {b n : Nat} {q : Bool} {ad : Option Addr} {cap : Nat} {ks : List AT} (h : (lvs (er (.mk b n q ad cap ks))).Nodup) : ∀ k ∈ ks, (lvs (er k)).Nodup := fun k hk => by
  have h0 : ks ≠ [] := fun e => by rw [e] at hk; cases hk
  rw [er_nd h0, lvs_nd] at h
  exact kid_nodup h _ (List.mem_map_of_mem hk)
theorem lt_kid {b n c : Nat} {q : Bool} {ad : Option Addr} {cap : Nat} {ks : List AT} (h : ∀ x ∈ lvs (er (.mk b n q ad cap ks)), x < c) : ∀ k ∈ ks, ∀ x ∈ lvs (er k), x < c := fun k hk x hx => h x (by
  have h0 : ks ≠ [] := fun e => by rw [e] at hk; cases hk
  rw [er_nd h0, lvs_nd]; exact List.mem_flatMap.2 ⟨_, List.mem_map_of_mem hk, hx⟩)
theorem lst_lt {c : Nat} {t : PT} (h : Ok t) (hc : ∀ x ∈ lvs t, x < c) : lst t < c := hc _ (lst_spec h).1
theorem lst_last {ks : List AT} (h : ks ≠ []) : lst ((ks.map er).getLastD default) = lst (er (ks.getD (ks.length - 1) default)) := by
  have hl : 0 < ks.length := List.length_pos_iff.2 h
  rw [← getD_er ks (by omega), List.getLastD_eq_getLast?, List.getLast?_eq_getElem?, List.getD_eq_getElem?_getD, List.length_map]
theorem lst_head {ks : List AT} (h : ks ≠ []) : lst ((ks.map er).headD default) = lst (er (ks.getD 0 default)) := by
  have hl : 0 < ks.length := List.length_pos_iff.2 h
  rw [← getD_er ks hl, List.headD_eq_head?_getD, List.head?_eq_getElem?, List.getD_eq_getElem?_getD]
theorem conF1 {P : Program} {f : FuncId} {args : List Value} {t : AT} {l : List AT} {Post : Value → List VP → Prop} (h : ConF P f args [vA t] Post) (ht : t ∈ l) : ConF P f args [vAs l] Post := fun w hw => h w fun p hp => by
  rw [List.mem_singleton.1 hp]; exact hw (vAs l) List.mem_cons_self t ht
theorem conA1 {P : Program} {f : FuncId} {args : List Value} {t : AT} {l : List AT} {Post : Value → List VP → Prop} (h : ConA P f args [vA t] Post) (ht : t ∈ l) : ConA P f args [vAs l] Post := fun w X hX hw => h w X hX fun p hp => by
  rw [List.mem_singleton.1 hp]; exact hw (vAs l) List.mem_cons_self t ht
end Go.Fw.Pq
namespace Go.Fw.K
open Go Go.RowKit Go.Proofs Go.Fw Go.Fw.Pq
theorem least_con (t : AT) (hf : Fit t) : ConF Tryz.prog 72 [ptr t] [vA t] (fun v φo => v = .int .i64 (lst (er t) : Nat) ∧ φo = []) := fun w hin => by
  refine (leastW t hf (hin _ List.mem_cons_self)).mono ?_
  rintro e w' ⟨rfl, rfl⟩
  exact ⟨_, [], rfl, ⟨rfl, rfl⟩, Below.refl _ _, fun p hp => by cases hp⟩
theorem itoa_con {n : Nat} (h : n < 100) : ConF Tryz.prog 71 [.int .i64 (n : Nat)] [] (fun v φo => v = .string (bs (dd n)) ∧ φo = []) := fun w _ => by
  refine (Tryz.strconv_Itoa_small n h w).mono ?_
  rintro e w' ⟨rfl, rfl⟩
  exact ⟨_, [], rfl, ⟨rfl, rfl⟩, Below.refl _ _, fun p hp => by cases hp⟩
theorem joinS_con {ad : Option Addr} {c : Nat} {xs : List (List UInt8)} {sep : List UInt8} (h0 : xs ≠ []) (hc : xs.length ≤ c) (hn : xs.length ≤ 1000) (hl : (jn sep xs).length ≤ 1000000) : ConF Tryz.prog 76 [.slice ad xs.length c, .string (bs sep)] [vCells ad (strs xs)] (fun v φo => v = .string (bs (jn sep xs)) ∧ φo = []) := fun w hin => by
  have hv : CellsAt (fun _ => False) w ad (strs xs) := hin _ List.mem_cons_self
  match xs, h0 with
  | x :: l, _ =>
    obtain ⟨b, o, e, _, hc0⟩ := hv 0 _ rfl
    subst e
    have hx : ((x :: l).map bs).map (fun y => y.data.toList) = x :: l := by rw [List.map_map]; simp [Function.comp_def]
    have h := Tryz.strings_Join b o c ((x :: l).map bs) (bs sep) w (fun j y hj => by
      obtain ⟨b', o', e, _, hc⟩ := hv j (.string y) (by
        rw [List.getElem?_map] at hj ⊢
        cases hq : (x :: l)[j]? with
        | none => rw [hq] at hj; cases hj
        | some z => rw [hq] at hj; rw [← Option.some.inj hj]; rfl)
      cases e; exact hc) (block_of_cell hc0) (by rw [List.length_map]; omega) (by rw [List.length_map]; exact hc) (by rw [hx, ← jn_join]; simp only []; omega)
    rw [hx] at h
    rw [List.length_map] at h
    have h2 : Calls Tryz.prog 76 #[.slice (some ⟨b, o, none⟩) (x :: l).length c, .string (bs sep)] w _ := h
    refine h2.mono ?_
    rintro e w' ⟨rfl, hb⟩
    exact ⟨_, [], rfl, ⟨by rw [jn_join], rfl⟩, hb, fun p hp => by cases hp⟩
end Go.Fw.K
