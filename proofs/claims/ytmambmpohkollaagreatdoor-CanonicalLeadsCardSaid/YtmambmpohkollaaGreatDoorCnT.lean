/- Chapter 16: names: a code as a text; two codes with the same name are the same. Plain; numbers and joined texts out of the library. -/
import Derived.Test.YtmambmpohkollaaGreatDoorCnM
import Derived.Test.YtmambmpohkollaaGreatDoorShJ
import Derived.Test.YtmambmpohkollaaGreatDoorFwEE
namespace Go.Fw.Cn
open Go Go.RowKit Go.Fw
abbrev dd : Nat → List UInt8 := Lib.decDigits
abbrev bs (l : List UInt8) : ByteArray := ⟨l.toArray⟩
abbrev strs (l : List (List UInt8)) : List Value := l.map fun x => .string (bs x)
theorem strs_one (l : List (List UInt8)) : AllOne (strs l) := fun v hv => by
  obtain ⟨x, _, rfl⟩ := List.mem_map.1 hv
  rfl
theorem strs_length (l : List (List UInt8)) : (strs l).length = l.length := List.length_map _
theorem strs_app (l m : List (List UInt8)) : strs l ++ strs m = strs (l ++ m) := List.map_append.symm
theorem bs_app (a b : List UInt8) : bs a ++ bs b = bs (a ++ b) := ByteArray.mk_append_mk a b
theorem bs_size (a : List UInt8) : (bs a).size = a.length := by show a.toArray.size = _; simp
theorem bs_inj {a b : List UInt8} (h : bs a = bs b) : a = b := by
  have h2 : a.toArray = b.toArray := congrArg ByteArray.data h
  have := congrArg Array.toList h2
  simpa using this
/-- Texts joined. -/
def jn (s : List UInt8) : List (List UInt8) → List UInt8
  | [] => []
  | [x] => x
  | x :: y :: l => x ++ s ++ jn s (y :: l)
theorem jn_join (s : List UInt8) : ∀ l : List (List UInt8), jn s l = Lib.join l s
  | [] => rfl
  | [x] => (Lib.join_one x s).symm
  | x :: y :: l => by
    rw [jn, jn_join s (y :: l), Lib.join_cons, Lib.join_cons]
    simp [Lib.joinTail]
theorem dd_cases {n : Nat} (h : n < 100) : (n < 10 ∧ dd n = [UInt8.ofNat (48 + n)]) ∨ (10 ≤ n ∧ dd n = [UInt8.ofNat (48 + n / 10), UInt8.ofNat (48 + n % 10)]) := by
  by_cases c : n < 10
  · exact .inl ⟨c, by show Lib.decDigits n = _; rw [Lib.decDigits, dif_pos c]⟩
  · refine .inr ⟨by omega, ?_⟩
    show Lib.decDigits n = _
    rw [Lib.decDigits, dif_neg c, Lib.decDigits, dif_pos (by omega)]; rfl
theorem dd_len {n : Nat} (h : n < 100) : (dd n).length ≤ 2 := by
  rcases dd_cases h with ⟨_, e⟩ | ⟨_, e⟩ <;> rw [e] <;> simp
theorem dg_val {n : Nat} (h : n < 10) : (UInt8.ofNat (48 + n)).toNat = 48 + n := by
  rw [UInt8.toNat_ofNat']; omega
theorem dg_inj {n m : Nat} (h : n < 10) (h2 : m < 10) (e : UInt8.ofNat (48 + n) = UInt8.ofNat (48 + m)) : n = m := by
  have := congrArg UInt8.toNat e
  rw [dg_val h, dg_val h2] at this
  omega
theorem dd_inj {n m : Nat} (h : n < 100) (h2 : m < 100) (e : dd n = dd m) : n = m := by
  rcases dd_cases h with ⟨a, e1⟩ | ⟨a, e1⟩ <;> rcases dd_cases h2 with ⟨b, e2⟩ | ⟨b, e2⟩ <;> rw [e1, e2] at e
  · exact dg_inj a b (List.cons.inj e).1
  · exact absurd (congrArg List.length e) (by simp)
  · exact absurd (congrArg List.length e) (by simp)
  · have h3 := dg_inj (by omega) (by omega) (List.cons.inj e).1
    have h4 := dg_inj (by omega) (by omega) (List.cons.inj (List.cons.inj e).2).1
    omega
theorem dd_dig {n : Nat} (h : n < 100) {c : UInt8} (hc : c ∈ dd n) : 48 ≤ c.toNat ∧ c.toNat ≤ 57 := by
  rcases dd_cases h with ⟨a, e⟩ | ⟨a, e⟩ <;> rw [e] at hc
  · rw [List.mem_singleton.1 hc, dg_val a]; omega
  · rcases List.mem_cons.1 hc with rfl | hc
    · rw [dg_val (by omega)]; omega
    · rw [List.mem_singleton.1 hc, dg_val (by omega)]; omega
/-- What stands ahead of the first sign c. -/
theorem split_at {c : UInt8} : ∀ {a a' b b' : List UInt8}, c ∉ a → c ∉ a' → a ++ c :: b = a' ++ c :: b' → a = a' ∧ b = b'
  | [], [], _, _, _, _, h => ⟨rfl, (List.cons.inj h).2⟩
  | [], x :: a', _, _, _, h2, h => absurd (by rw [(List.cons.inj h).1]; exact List.mem_cons_self) h2
  | x :: a, [], _, _, h1, _, h => absurd (by rw [← (List.cons.inj h).1]; exact List.mem_cons_self) h1
  | x :: a, y :: a', b, b', h1, h2, h => by
    obtain ⟨e1, e2⟩ := List.cons.inj h
    obtain ⟨e3, e4⟩ := split_at (fun hm => h1 (List.mem_cons_of_mem _ hm)) (fun hm => h2 (List.mem_cons_of_mem _ hm)) e2
    exact ⟨by rw [e1, e3], e4⟩
/-! ## Rows -/
def ent (n : Int) : List UInt8 := if 9 < n then 40 :: (dd n.toNat ++ [41]) else dd n.toNat
def rowT (L : List Int) : List UInt8 := L.flatMap ent
def okE (L : List Int) : Prop := ∀ x ∈ L, 0 ≤ x ∧ x < 100
theorem ent_small {n : Int} (h : ¬ 9 < n) : ent n = dd n.toNat := if_neg h
theorem ent_big {n : Int} (h : 9 < n) : ent n = [40] ++ dd n.toNat ++ [41] := by unfold ent; rw [if_pos h]; rfl
theorem ent_len {n : Int} (h : 0 ≤ n ∧ n < 100) : (ent n).length ≤ 4 := by
  have := dd_len (n := n.toNat) (by omega)
  unfold ent
  split
  · simp only [List.length_cons, List.length_append, List.length_nil]; omega
  · omega
theorem ent_dig {n : Int} (h : 0 ≤ n ∧ n < 100) {c : UInt8} (hc : c ∈ ent n) : c ≠ 47 := by
  intro e
  subst e
  unfold ent at hc
  split at hc
  · rcases List.mem_cons.1 hc with e | hc
    · exact absurd e (by decide)
    · rcases List.mem_append.1 hc with hc | hc
      · exact absurd (dd_dig (by omega) hc).1 (by decide)
      · exact absurd (List.mem_singleton.1 hc) (by decide)
  · exact absurd (dd_dig (by omega) hc).1 (by decide)
theorem rowT_dig {L : List Int} (h : okE L) : (47 : UInt8) ∉ rowT L := fun hc => by
  obtain ⟨n, hn, hm⟩ := List.mem_flatMap.1 hc
  exact ent_dig (h n hn) hm rfl
theorem ent_app {a b : Int} (ha : 0 ≤ a ∧ a < 100) (hb : 0 ≤ b ∧ b < 100) {x y : List UInt8} (h : ent a ++ x = ent b ++ y) : a = b ∧ x = y := by
  have d1 : ∀ {c : UInt8}, c ∈ dd a.toNat → 48 ≤ c.toNat ∧ c.toNat ≤ 57 := fun hc => dd_dig (n := a.toNat) (by omega) hc
  have d2 : ∀ {c : UInt8}, c ∈ dd b.toNat → 48 ≤ c.toNat ∧ c.toNat ≤ 57 := fun hc => dd_dig (n := b.toNat) (by omega) hc
  by_cases h1 : 9 < a <;> by_cases h2 : 9 < b
  · rw [ent_big h1, ent_big h2] at h
    have h3 : dd a.toNat ++ 41 :: x = dd b.toNat ++ 41 :: y := by
      have := (List.cons.inj (show (40 : UInt8) :: (dd a.toNat ++ [41] ++ x) = 40 :: (dd b.toNat ++ [41] ++ y) from h)).2
      simpa using this
    obtain ⟨e1, e2⟩ := split_at (fun hc => absurd (d1 hc).1 (by decide)) (fun hc => absurd (d2 hc).1 (by decide)) h3
    exact ⟨by have := dd_inj (by omega) (by omega) e1; omega, e2⟩
  · rw [ent_big h1, ent_small h2] at h
    rcases dd_cases (n := b.toNat) (by omega) with ⟨hb1, e⟩ | ⟨hb1, e⟩
    · rw [e] at h
      have e4 : (40 : UInt8) = UInt8.ofNat (48 + b.toNat) := (List.cons.inj h).1
      have := (d2 (c := 40) (by rw [e, e4]; exact List.mem_cons_self)).1
      exact absurd this (by decide)
    · omega
  · rw [ent_small h1, ent_big h2] at h
    rcases dd_cases (n := a.toNat) (by omega) with ⟨hb1, e⟩ | ⟨hb1, e⟩
    · rw [e] at h
      have e4 : UInt8.ofNat (48 + a.toNat) = (40 : UInt8) := (List.cons.inj h).1
      have := (d1 (c := 40) (by rw [e, e4]; exact List.mem_cons_self)).1
      exact absurd this (by decide)
    · omega
  · rw [ent_small h1, ent_small h2] at h
    rcases dd_cases (n := a.toNat) (by omega) with ⟨ha1, e⟩ | ⟨ha1, e⟩
    · rcases dd_cases (n := b.toNat) (by omega) with ⟨hb1, e2⟩ | ⟨hb1, e2⟩
      · rw [e, e2] at h
        obtain ⟨e3, e4⟩ := List.cons.inj h
        have := dg_inj ha1 hb1 e3
        exact ⟨by omega, e4⟩
      · omega
    · omega
theorem ent_ne {a : Int} (ha : 0 ≤ a ∧ a < 100) : ent a ≠ [] := fun e => by
  unfold ent at e
  split at e
  · cases e
  · rcases dd_cases (n := a.toNat) (by omega) with ⟨_, e2⟩ | ⟨_, e2⟩ <;> rw [e2] at e <;> cases e
theorem rowT_inj : ∀ {L M : List Int}, okE L → okE M → rowT L = rowT M → L = M
  | [], [], _, _, _ => rfl
  | [], b :: M, _, hM, h => by
    have h2 : ent b ++ rowT M = [] := h.symm
    exact absurd (List.append_eq_nil_iff.1 h2).1 (ent_ne (hM b List.mem_cons_self))
  | a :: L, [], hL, _, h => by
    have h2 : ent a ++ rowT L = [] := h
    exact absurd (List.append_eq_nil_iff.1 h2).1 (ent_ne (hL a List.mem_cons_self))
  | a :: L, b :: M, hL, hM, h => by
    obtain ⟨e1, e2⟩ := ent_app (hL a List.mem_cons_self) (hM b List.mem_cons_self) (show ent a ++ rowT L = ent b ++ rowT M from h)
    rw [e1, rowT_inj (fun x hx => hL x (List.mem_cons_of_mem _ hx)) (fun x hx => hM x (List.mem_cons_of_mem _ hx)) e2]
theorem jn_inj : ∀ {A B : List (List UInt8)}, A.length = B.length → (∀ x ∈ A, (47 : UInt8) ∉ x) → (∀ x ∈ B, (47 : UInt8) ∉ x) → jn [47] A = jn [47] B → A = B
  | [], [], _, _, _, _ => rfl
  | [], _ :: _, h, _, _, _ => by cases h
  | _ :: _, [], h, _, _, _ => by cases h
  | [x], [y], _, _, _, h => by rw [show x = y from h]
  | [_], _ :: _ :: _, h, _, _, _ => by simp at h
  | _ :: _ :: _, [_], h, _, _, _ => by simp at h
  | x :: x2 :: A, y :: y2 :: B, hl, h1, h2, h => by
    rw [jn, jn, List.append_assoc, List.append_assoc] at h
    obtain ⟨e1, e2⟩ := split_at (h1 x List.mem_cons_self) (h2 y List.mem_cons_self) h
    rw [e1, jn_inj (A := x2 :: A) (B := y2 :: B) (by simpa using hl) (fun z hz => h1 z (List.mem_cons_of_mem _ hz)) (fun z hz => h2 z (List.mem_cons_of_mem _ hz)) e2]
/-! ## Names -/
/-- The rows of a list of numbers. -/
def chk (w : Nat) (E : List Int) (h : Nat) : List (List Int) := (List.range h).map fun r => (E.drop (r * w)).take w
def nameT (h w : Nat) (E : List Int) : List UInt8 := dd h ++ [120] ++ dd w ++ [58] ++ jn [47] ((chk w E h).map rowT)
theorem chk_len (w : Nat) (E : List Int) (h : Nat) : (chk w E h).length = h := by unfold chk; rw [List.length_map, List.length_range]
theorem chk_ok {w : Nat} {E : List Int} {h : Nat} (hE : okE E) {x : List Int} (hx : x ∈ chk w E h) : okE x := by
  obtain ⟨r, _, rfl⟩ := List.mem_map.1 hx
  exact fun y hy => hE y (List.mem_of_mem_drop (List.mem_of_mem_take hy))
theorem chk_flat : ∀ {h w : Nat} {E : List Int}, E.length = h * w → (chk w E h).flatten = E
  | 0, w, E, he => by rw [Nat.zero_mul] at he; rw [List.eq_nil_of_length_eq_zero he]; rfl
  | h + 1, w, E, he => by
    have h1 : chk w E (h + 1) = E.take w :: chk w (E.drop w) h := by
      unfold chk
      rw [List.range_succ_eq_map, List.map_cons, Nat.zero_mul, List.drop_zero, List.map_map]
      congr 1
      refine List.map_congr_left fun r _ => ?_
      show (E.drop ((r + 1) * w)).take w = ((E.drop w).drop (r * w)).take w
      rw [List.drop_drop, Nat.succ_mul, Nat.add_comm]
    rw [h1, List.flatten_cons, chk_flat (by rw [List.length_drop, he, Nat.succ_mul]; omega), List.take_append_drop]
theorem nameT_inj {h w h' w' : Nat} {E E' : List Int} (h1 : h < 100) (h2 : w < 100) (h3 : h' < 100) (h4 : w' < 100) (e1 : E.length = h * w) (e2 : E'.length = h' * w') (o1 : okE E) (o2 : okE E') (he : nameT h w E = nameT h' w' E') : h = h' ∧ w = w' ∧ E = E' := by
  unfold nameT at he
  rw [List.append_assoc, List.append_assoc, List.append_assoc, List.append_assoc, List.append_assoc, List.append_assoc] at he
  obtain ⟨a1, a2⟩ := split_at (c := 120) (fun hc => absurd (dd_dig h1 hc).2 (by decide)) (fun hc => absurd (dd_dig h3 hc).2 (by decide)) he
  obtain ⟨a3, a4⟩ := split_at (c := 58) (fun hc => absurd (dd_dig h2 hc).2 (by decide)) (fun hc => absurd (dd_dig h4 hc).2 (by decide)) a2
  obtain rfl := dd_inj h1 h3 a1
  obtain rfl := dd_inj h2 h4 a3
  refine ⟨rfl, rfl, ?_⟩
  have hr : ∀ {F : List Int}, okE F → ∀ x ∈ (chk w F h).map rowT, (47 : UInt8) ∉ x := fun hF x hx => by
    obtain ⟨y, hy, rfl⟩ := List.mem_map.1 hx
    exact rowT_dig (chk_ok hF hy)
  have h5 := jn_inj (by rw [List.length_map, List.length_map, chk_len, chk_len]) (hr o1) (hr o2) a4
  have h6 : chk w E h = chk w E' h := by
    refine List.ext_getElem (by rw [chk_len, chk_len]) fun i hi hi2 => ?_
    have h7 := List.getElem_of_eq h5 (show i < ((chk w E h).map rowT).length by rw [List.length_map]; exact hi)
    rw [List.getElem_map, List.getElem_map] at h7
    exact rowT_inj (chk_ok o1 (List.getElem_mem hi)) (chk_ok o2 (List.getElem_mem hi2)) h7
  rw [← chk_flat e1, ← chk_flat e2, h6]
theorem jn_snoc_len {s : List UInt8} (hs : s.length = 1) {c : Nat} : ∀ {l : List (List UInt8)}, (∀ x ∈ l, x.length ≤ c) → (jn s l).length ≤ l.length * (c + 1)
  | [], _ => by simp [jn]
  | [x], h => by have := h x List.mem_cons_self; simp [jn]; omega
  | x :: y :: l, h => by
    have h1 := h x List.mem_cons_self
    have h2 := jn_snoc_len hs (l := y :: l) fun z hz => h z (List.mem_cons_of_mem _ hz)
    rw [jn, List.length_append, List.length_append, hs, List.length_cons, Nat.succ_mul]
    omega
theorem rowT_len {L : List Int} (h : okE L) : (rowT L).length ≤ L.length * 4 := len_flatMap_le fun a ha => ent_len (h a ha)
/-! ## Codes of graphs -/
theorem code_okE {O R : List Int} {K : List Lk} {B : List Int} (hK : K.length ≤ 64) (h : IsCode (matG O R K) R.length B) : okE (B.drop 2) ∧ B.getD 0 0 = (O.length : Int) ∧ B.getD 1 0 = (R.length : Int) ∧ (B.drop 2).length = O.length * R.length := by
  obtain ⟨⟨p, q, hp, hq, rfl⟩, _⟩ := h
  rw [matG_len] at hp
  refine ⟨fun x hx => ?_, ?_, ?_, ?_⟩
  · have hx : x ∈ wrB (matG O R K) p q := hx
    obtain ⟨r, hr, hx⟩ := List.mem_flatMap.1 hx
    obtain ⟨c, hc, rfl⟩ := List.mem_map.1 hx
    unfold en
    rw [matG_get (hp.lt r hr) (hq.lt c hc)]
    have := cntK_le K (O.getD r 0) (R.getD c 0)
    omega
  · show ((p.length : Nat) : Int) = _; rw [hp.len]
  · show ((q.length : Nat) : Int) = _; rw [hq.len]
  · show (wrB _ p q).length = _; rw [wrB_len, hp.len, hq.len]
theorem valG_nw2 {O R : List Int} {K : List Lk} (h : valG O R K) (h0 : R.length = 0) : O.length = 0 := by
  cases O with
  | nil => rfl
  | cons x O =>
    obtain ⟨k, hk, _⟩ := List.mem_map.1 (h.2.2.2.2.1 x List.mem_cons_self)
    obtain ⟨j, hj, rfl⟩ := mem_getK hk
    have := (h.2.2.2.1 j hj).2.2.2.2
    rw [List.eq_nil_of_length_eq_zero h0] at this
    cases this
theorem row_snoc {L : List Int} {k : Nat} (h : k < L.length) : rowT (L.take k) ++ ent (L.getD k 0) = rowT (L.take (k + 1)) := by
  rw [List.take_add_one, List.getElem?_eq_getElem h, ← getI_eq h]
  unfold rowT
  rw [List.flatMap_append]
  show _ = _ ++ (ent (L.getD k 0) ++ [])
  rw [List.append_nil]
theorem takeT_succ {l : List (List UInt8)} {i : Nat} (h : i < l.length) : l.take (i + 1) = l.take i ++ [l.getD i []] := by
  rw [List.take_add_one, List.getElem?_eq_getElem h, List.getD_eq_getElem?_getD, List.getElem?_eq_getElem h]; rfl
theorem chk_get {w : Nat} {E : List Int} {h r : Nat} (hr : r < h) : ((chk w E h).map rowT).getD r [] = rowT ((E.drop (r * w)).take w) := by
  unfold chk
  rw [List.map_map, List.getD_eq_getElem?_getD, List.getElem?_map, List.getElem?_range hr]; rfl
theorem take_getI {l : List Int} {k w : Nat} (h : k < w) : (l.take w).getD k 0 = l.getD k 0 := by
  rw [List.getD_eq_getElem?_getD, List.getElem?_take, if_pos h, List.getD_eq_getElem?_getD]
end Go.Fw.Cn
namespace Go.Fw.K
open Go Go.RowKit Go.Proofs Go.Fw Go.Fw.Cn
theorem itoa_con {n : Nat} (h : n < 100) : ConF Tryz.prog 30 [.int .i64 (n : Nat)] [] (fun v φo => v = .string (bs (dd n)) ∧ φo = []) := fun w _ => by
  refine (Tryz.strconv_Itoa_small n h w).mono ?_
  rintro e w' ⟨rfl, rfl⟩
  exact ⟨_, [], rfl, ⟨rfl, rfl⟩, Below.refl _ _, fun p hp => by cases hp⟩
theorem joinS_con {ad : Option Addr} {c : Nat} {xs : List (List UInt8)} {sep : List UInt8} (h0 : xs ≠ []) (hc : xs.length ≤ c) (hn : xs.length ≤ 1000) (hl : (jn sep xs).length ≤ 1000000) : ConF Tryz.prog 31 [.slice ad xs.length c, .string (bs sep)] [vCells ad (strs xs)] (fun v φo => v = .string (bs (jn sep xs)) ∧ φo = []) := fun w hin => by
  have hv : CellsAt (fun _ => False) w ad (strs xs) := hin _ List.mem_cons_self
  match xs, h0 with
  | x :: l, _ =>
    obtain ⟨b, o, e, _, hc0⟩ := hv 0 _ rfl
    subst e
    have hx : ((x :: l).map bs).map (fun y => y.data.toList) = x :: l := by rw [List.map_map]; simp [Function.comp_def]
    have h := Tryz.strings_Join b o c ((x :: l).map bs) (bs sep) w (fun j y hj => by
      obtain ⟨b', o', e, _, hc⟩ := hv j (.string y) (by
        rw [List.getElem?_map] at hj ⊢
        cases hq : (x :: l)[j]? with
        | none => rw [hq] at hj; cases hj
        | some z => rw [hq] at hj; rw [← Option.some.inj hj]; rfl)
      cases e; exact hc) (block_of_cell hc0) (by rw [List.length_map]; omega) (by rw [List.length_map]; exact hc) (by rw [hx, ← jn_join]; simp only []; omega)
    rw [hx] at h
    rw [List.length_map] at h
    have h2 : Calls Tryz.prog 31 #[.slice (some ⟨b, o, none⟩) (x :: l).length c, .string (bs sep)] w _ := h
    refine h2.mono ?_
    rintro e w' ⟨rfl, hb⟩
    exact ⟨_, [], rfl, ⟨by rw [jn_join], rfl⟩, hb, fun p hp => by cases hp⟩
end Go.Fw.K
