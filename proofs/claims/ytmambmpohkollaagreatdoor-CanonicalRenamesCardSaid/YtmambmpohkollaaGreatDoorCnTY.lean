/- Chapter 16: names: a code as a text; two codes with the same name are the same. Plain; numbers and joined texts out of the library. -/
import Derived.Test.YtmambmpohkollaaGreatDoorCnKM
import Derived.Test.YtmambmpohkollaaGreatDoorShJ
import Derived.Test.YtmambmpohkollaaGreatDoorFwEE
import Derived.Laws.Strings
namespace Go.Fw.Cn
open Go Go.RowKit Go.Fw
abbrev dd : Nat → List UInt8 := Lib.decDigits
abbrev bs (l : List UInt8) : ByteArray := ⟨l.toArray⟩
abbrev strs (l : List (List UInt8)) : List Value := l.map fun x => .string (bs x)
theorem strs_one (l : List (List UInt8)) : AllOne (strs l) := fun v hv => by
  obtain ⟨x, _, rfl⟩ := List.mem_map.1 hv
  rfl
theorem strs_length (l : List (List UInt8)) : (strs l).length = l.length := List.length_map _
theorem strs_app (l m : List (List UInt8)) : strs l ++ strs m = strs (l ++ m) := List.map_append.symm
theorem bs_app (a b : List UInt8) : bs a ++ bs b = bs (a ++ b) := ByteArray.mk_append_mk a b
theorem bs_size (a : List UInt8) : (bs a).size = a.length := by show a.toArray.size = _; simp
theorem bs_inj {a b : List UInt8} (h : bs a = bs b) : a = b := by
  have h2 : a.toArray = b.toArray := congrArg ByteArray.data h
  have := congrArg Array.toList h2
  simpa using this
/-- Texts joined. -/
def jn (s : List UInt8) : List (List UInt8) → List UInt8
  | [] => []
  | [x] => x
  | x :: y :: l => x ++ s ++ jn s (y :: l)
theorem jn_join (s : List UInt8) : ∀ l : List (List UInt8), jn s l = Lib.join l s
  | [] => rfl
  | [x] => (Lib.join_one x s).symm
  | x :: y :: l => by
    rw [jn, jn_join s (y :: l), Lib.join_cons, Lib.join_cons]
    simp [Lib.joinTail]
theorem dd_cases {n : Nat} (h : n < 100) : (n < 10 ∧ dd n = [UInt8.ofNat (48 + n)]) ∨ (10 ≤ n ∧ dd n = [UInt8.ofNat (48 + n / 10), UInt8.ofNat (48 + n % 10)]) := by
  by_cases c : n < 10
  · exact .inl ⟨c, by show Lib.decDigits n = _; rw [Lib.decDigits, dif_pos c]⟩
  · refine .inr ⟨by omega, ?_⟩
    show Lib.decDigits n = _
    rw [Lib.decDigits, dif_neg c, Lib.decDigits, dif_pos (by omega)]; rfl
theorem dd_len {n : Nat} (h : n < 100) : (dd n).length ≤ 2 := by
  rcases dd_cases h with ⟨_, e⟩ | ⟨_, e⟩ <;> rw [e] <;> simp
theorem dg_val {n : Nat} (h : n < 10) : (UInt8.ofNat (48 + n)).toNat = 48 + n := by
  rw [UInt8.toNat_ofNat']; omega
theorem dg_inj {n m : Nat} (h : n < 10) (h2 : m < 10) (e : UInt8.ofNat (48 + n) = UInt8.ofNat (48 + m)) : n = m := by
  have := congrArg UInt8.toNat e
  rw [dg_val h, dg_val h2] at this
  omega
theorem dd_inj {n m : Nat} (h : n < 100) (h2 : m < 100) (e : dd n = dd m) : n = m := by
  rcases dd_cases h with ⟨a, e1⟩ | ⟨a, e1⟩ <;> rcases dd_cases h2 with ⟨b, e2⟩ | ⟨b, e2⟩ <;> rw [e1, e2] at e
  · exact dg_inj a b (List.cons.inj e).1
  · exact absurd (congrArg List.length e) (by simp)
  · exact absurd (congrArg List.length e) (by simp)
  · have h3 := dg_inj (by omega) (by omega) (List.cons.inj e).1
    have h4 := dg_inj (by omega) (by omega) (List.cons.inj (List.cons.inj e).2).1
    omega
theorem dd_dig {n : Nat} (h : n < 100) {c : UInt8} (hc : c ∈ dd n) : 48 ≤ c.toNat ∧ c.toNat ≤ 57 := by
  rcases dd_cases h with ⟨a, e⟩ | ⟨a, e⟩ <;> rw [e] at hc
  · rw [List.mem_singleton.1 hc, dg_val a]; omega
  · rcases List.mem_cons.1 hc with rfl | hc
    · rw [dg_val (by omega)]; omega
    · rw [List.mem_singleton.1 hc, dg_val (by omega)]; omega
/-- What stands ahead of the first sign c. -/
theorem split_at {c : UInt8} : ∀ {a a' b b' : List UInt8}, c ∉ a → c ∉ a' → a ++ c :: b = a' ++ c :: b' → a = a' ∧ b = b'
  | [], [], _, _, _, _, h => ⟨rfl, (List.cons.inj h).2⟩
  | [], x :: a', _, _, _, h2, h => absurd (by rw [(List.cons.inj h).1]; exact List.mem_cons_self) h2
  | x :: a, [], _, _, h1, _, h => absurd (by rw [← (List.cons.inj h).1]; exact List.mem_cons_self) h1
  | x :: a, y :: a', b, b', h1, h2, h => by
    obtain ⟨e1, e2⟩ := List.cons.inj h
    obtain ⟨e3, e4⟩ := split_at (fun hm => h1 (List.mem_cons_of_mem _ hm)) (fun hm => h2 (List.mem_cons_of_mem _ hm)) e2
    exact ⟨by rw [e1, e3], e4⟩
/-! ## Rows -/
def ent (n : Int) : List UInt8 := if 9 < n then 40 :: (dd n.toNat ++ [41]) else dd n.toNat
def rowT (L : List Int) : List UInt8 := L.flatMap ent
def okE (L : List Int) : Prop := ∀ x ∈ L, 0 ≤ x ∧ x < 100
theorem ent_small {n : Int} (h : ¬ 9 < n) : ent n = dd n.toNat := if_neg h
theorem ent_big {n : Int} (h : 9 < n) : ent n = [40] ++ dd n.toNat ++ [41] := by unfold ent; rw [if_pos h]; rfl
theorem ent_len {n : Int} (h : 0 ≤ n ∧ n < 100) : (ent n).length ≤ 4 := by
  have := dd_len (n := n.toNat) (by omega)
  unfold ent
  split
  · simp only [List.length_cons, List.length_append, List.length_nil]; omega
  · omega
theorem ent_dig {n : Int} (h : 0 ≤ n ∧ n < 100) {c : UInt8} (hc : c ∈ ent n) : c ≠ 47 := by
  intro e
  subst e
  unfold ent at hc
  split at hc
  · rcases List.mem_cons.1 hc with e | hc
    · exact absurd e (by decide)
    · rcases List.mem_append.1 hc with hc | hc
      · exact absurd (dd_dig (by omega) hc).1 (by decide)
      · exact absurd (List.mem_singleton.1 hc) (by decide)
  · exact absurd (dd_dig (by omega) hc).1 (by decide)
theorem rowT_dig {L : List Int} (h : okE L) : (47 : UInt8) ∉ rowT L := fun hc => by
  obtain ⟨n, hn, hm⟩ := List.mem_flatMap.1 hc
  exact ent_dig (h n hn) hm rfl
theorem ent_app {a b : Int} (ha : 0 ≤ a ∧ a < 100) (hb : 0 ≤ b ∧ b < 100) {x y : List UInt8} (h : ent a ++ x = ent b ++ y) : a = b ∧ x = y := by
  have d1 : ∀ {c : UInt8}, c ∈ dd a.toNat → 48 ≤ c.toNat ∧ c.toNat ≤ 57 := fun hc => dd_dig (n := a.toNat) (by omega) hc
  have d2 : ∀ {c : UInt8}, c ∈ dd b.toNat → 48 ≤ c.toNat ∧ c.toNat ≤ 57 := fun hc => dd_dig (n := b.toNat) (by omega) hc
  by_cases h1 : 9 < a <;> by_cases h2 : 9 < b
  · rw [ent_big h1, ent_big h2] at h
    have h3 : dd a.toNat ++ 41 :: x = dd b.toNat ++ 41 :: y := by
      have := (List.cons.inj (show (40 : UInt8) :: (dd a.toNat ++ [41] ++ x) = 40 :: (dd b.toNat ++ [41] ++ y) from h)).2
      simpa using this
    obtain ⟨e1, e2⟩ := split_at (fun hc => absurd (d1 hc).1 (by decide)) (fun hc => absurd (d2 hc).1 (by decide)) h3
    exact ⟨by have := dd_inj (by omega) (by omega) e1; omega, e2⟩
  · rw [ent_big h1, ent_small h2] at h
    rcases dd_cases (n := b.toNat) (by omega) with ⟨hb1, e⟩ | ⟨hb1, e⟩
    · rw [e] at h
      have e4 : (40 : UInt8) = UInt8.ofNat (48 + b.toNat) := (List.cons.inj h).1
      have := (d2 (c := 40) (by rw [e, e4]; exact List.mem_cons_self)).1
      exact absurd this (by decide)
    · omega
  · rw [ent_small h1, ent_big h2] at h
    rcases dd_cases (n := a.toNat) (by omega) with ⟨hb1, e⟩ | ⟨hb1, e⟩
    · rw [e] at h
      have e4 : UInt8.ofNat (48 + a.toNat) = (40 : UInt8) := (List.cons.inj h).1
      have := (d1 (c := 40) (by rw [e, e4]; exact List.mem_cons_self)).1
      exact absurd this (by decide)
    · omega
  · rw [ent_small h1, ent_small h2] at h
    rcases dd_cases (n := a.toNat) (by omega) with ⟨ha1, e⟩ | ⟨ha1, e⟩
    · rcases dd_cases (n := b.toNat) (by omega) with ⟨hb1, e2⟩ | ⟨hb1, e2⟩
      · rw [e, e2] at h
        obtain ⟨e3, e4⟩ := List.cons.inj h
        have := dg_inj ha1 hb1 e3
        exact ⟨by omega, e4⟩
      · omega
    · omega
theorem ent_ne {a : Int} (ha : 0 ≤ a ∧ a < 100) : ent a ≠ [] := fun e => by
  unfold ent at e
  split at e
  · cases e
  · rcases dd_cases (n := a.toNat) (by omega) with ⟨_, e2⟩ | ⟨_, e2⟩ <;> rw [e2] at e <;> cases e
theorem rowT_inj : ∀ {L M : List Int}, okE L → okE M → rowT L = rowT M → L = M
  | [], [], _, _, _ => rfl
  | [], b :: M, _, hM, h => by
    have h2 : ent b ++ rowT M = [] := h.symm
    exact absurd (List.append_eq_nil_iff.1 h2).1 (ent_ne (hM b List.mem_cons_self))
  | a :: L, [], hL, _, h => by
    have h2 : ent a ++ rowT L = [] := h
    exact absurd (List.append_eq_nil_iff.1 h2).1 (ent_ne (hL a List.mem_cons_self))
  | a :: L, b :: M, hL, hM, h => by
    obtain ⟨e1, e2⟩ := ent_app (hL a List.mem_cons_self) (hM b List.mem_cons_self) (show ent a ++ rowT L = ent b ++ rowT M from h)
    rw [e1, rowT_inj (fun x hx => hL x (List.mem_cons_of_mem _ hx)) (fun x hx => hM x (List.mem_cons_of_mem _ hx)) e2]
theorem jn_inj : ∀ {A B : List (List UInt8)}, A.length = B.length → (∀ x ∈ A, (47 : UInt8) ∉ x) → (∀ x ∈ B, (47 : UInt8) ∉ x) → jn [47] A = jn [47] B → A = B
  | [], [], _, _, _, _ => rfl
  | [], _ :: _, h, _, _, _ => by cases h
  | _ :: _, [], h, _, _, _ => by cases h
  | [x], [y], _, _, _, h => by rw [show x = y from h]
  | [_], _ :: _ :: _, h, _, _, _ => by simp at h
  | _ :: _ :: _, [_], h, _, _, _ => by simp at h
  | x :: x2 :: A, y :: y2 :: B, hl, h1, h2, h => by
    rw [jn, jn, List.append_assoc, List.append_assoc] at h
    obtain ⟨e1, e2⟩ := split_at (h1 x List.mem_cons_self) (h2 y List.mem_cons_self) h
    rw [e1, jn_inj (A := x2 :: A) (B := y2 :: B) (by simpa using hl) (fun z hz => h1 z (List.mem_cons_of_mem _ hz)) (fun z hz => h2 z (List.mem_cons_of_mem _ hz)) e2]
/-! ## Names -/
/-- The rows of a list of numbers. -/
def chk (w : Nat) (E : List Int) (h : Nat) : List (List Int) := (List.range h).map fun r => (E.drop (r * w)).take w
def nameT (h w : Nat) (E : List Int) : List UInt8 := dd h ++ [120] ++ dd w ++ [58] ++ jn [47] ((chk w E h).map rowT)
theorem chk_len (w : Nat) (E : List Int) (h : Nat) : (chk w E h).length = h := by unfold chk; rw [List.length_map, List.length_range]
theorem chk_ok {w : Nat} {E : List Int} {h : Nat} (hE : okE E) {x : List Int} (hx : x ∈ chk w E h) : okE x := by
  obtain ⟨r, _, rfl⟩ := List.mem_map.1 hx
  exact fun y hy => hE y (List.mem_of_mem_drop (List.mem_of_mem_take hy))
theorem chk_flat : ∀ {h w : Nat} {E : List Int}, E.length = h * w → (chk w E h).flatten = E
  | 0, w, E, he => by rw [Nat.zero_mul] at he; rw [List.eq_nil_of_length_eq_zero he]; rfl
  | h + 1, w, E, he => by
    have h1 : chk w E (h + 1) = E.take w :: chk w (E.drop w) h := by
      unfold chk
      rw [List.range_succ_eq_map, List.map_cons, Nat.zero_mul, List.drop_zero, List.map_map]
      congr 1
      refine List.map_congr_left fun r _ => ?_
      show (E.drop ((r + 1) * w)).take w = ((E.drop w).drop (r * w)).take w
      rw [List.drop_drop, Nat.succ_mul, Nat.add_comm]
    rw [h1, List.flatten_cons, chk_flat (by rw [List.length_drop, he, Nat.succ_mul]; omega), List.take_append_drop]
theorem nameT_inj {h w h' w' : Nat} {E E' : List Int} (h1 : h < 100) (h2 : w < 100) (h3 : h' < 100) (h4 : w' < 100) (e1 : E.length = h * w) (e2 : E'.length = h' * w') (o1 : okE E) (o2 : okE E') (he : nameT h w E = nameT h' w' E') : h = h' ∧ w = w' ∧ E = E' := by
  unfold nameT at he
  rw [List.append_assoc, List.append_assoc, List.append_assoc, List.append_assoc, List.append_assoc, List.append_assoc] at he
  obtain ⟨a1, a2⟩ := split_at (c := 120) (fun hc => absurd (dd_dig h1 hc).2 (by decide)) (fun hc => absurd (dd_dig h3 hc).2 (by decide)) he
  obtain ⟨a3, a4⟩ := split_at (c := 58) (fun hc => absurd (dd_dig h2 hc).2 (by decide)) (fun hc => absurd (dd_dig h4 hc).2 (by decide)) a2
  obtain rfl := dd_inj h1 h3 a1
  obtain rfl := dd_inj h2 h4 a3
  refine ⟨rfl, rfl, ?_⟩
  have hr : ∀ {F : List Int}, okE F → ∀ x ∈ (chk w F h).map rowT, (47 : UInt8) ∉ x := fun hF x hx => by
    obtain ⟨y, hy, rfl⟩ := List.mem_map.1 hx
    exact rowT_dig (chk_ok hF hy)
  have h5 := jn_inj (by rw [List.length_map, List.length_map, chk_len, chk_len]) (hr o1) (hr o2) a4
  have h6 : chk w E h = chk w E' h := by
    refine List.ext_getElem (by rw [chk_len, chk_len]) fun i hi hi2 => ?_
    have h7 := List.getElem_of_eq h5 (show i < ((chk w E h).map rowT).length by rw [List.length_map]; exact hi)
    rw [List.getElem_map, List.getElem_map] at h7
    exact rowT_inj (chk_ok o1 (List.getElem_mem hi)) (chk_ok o2 (List.getElem_mem hi2)) h7
  rw [← chk_flat e1, ← chk_flat e2, h6]
theorem jn_snoc_len {s : List UInt8} (hs : s.length = 1) {c : Nat} : ∀ {l : List (List UInt8)}, (∀ x ∈ l, x.length ≤ c) → (jn s l).length ≤ l.length * (c + 1)
  | [], _ => by simp [jn]
  | [x], h => by have := h x List.mem_cons_self; simp [jn]; omega
  | x :: y :: l, h => by
    have h1 := h x List.mem_cons_self
    have h2 := jn_snoc_len hs (l := y :: l) fun z hz => h z (List.mem_cons_of_mem _ hz)
    rw [jn, List.length_append, List.length_append, hs, List.length_cons, Nat.succ_mul]
    omega
theorem rowT_len {L : List Int} (h : okE L) : (rowT L).length ≤ L.length * 4 := len_flatMap_le fun a ha => ent_len (h a ha)
/-! ## Codes of graphs -/
theorem code_okE {O R : List Int} {K : List Lk} {B : List Int} (hK : K.length ≤ 64) (h : IsCode (matG O R K) R.length B) : okE (B.drop 2) ∧ B.getD 0 0 = (O.length : Int) ∧ B.getD 1 0 = (R.length : Int) ∧ (B.drop 2).length = O.length * R.length := by
  obtain ⟨⟨p, q, hp, hq, rfl⟩, _⟩ := h
  rw [matG_len] at hp
  refine ⟨fun x hx => ?_, ?_, ?_, ?_⟩
  · have hx : x ∈ wrB (matG O R K) p q := hx
    obtain ⟨r, hr, hx⟩ := List.mem_flatMap.1 hx
    obtain ⟨c, hc, rfl⟩ := List.mem_map.1 hx
    unfold en
    rw [matG_get (hp.lt r hr) (hq.lt c hc)]
    have := cntK_le K (O.getD r 0) (R.getD c 0)
    omega
  · show ((p.length : Nat) : Int) = _; rw [hp.len]
  · show ((q.length : Nat) : Int) = _; rw [hq.len]
  · show (wrB _ p q).length = _; rw [wrB_len, hp.len, hq.len]
theorem valG_nw2 {O R : List Int} {K : List Lk} (h : valG O R K) (h0 : R.length = 0) : O.length = 0 := by
  cases O with
  | nil => rfl
  | cons x O =>
    obtain ⟨k, hk, _⟩ := List.mem_map.1 (h.2.2.2.2.1 x List.mem_cons_self)
    obtain ⟨j, hj, rfl⟩ := mem_getK hk
    have := (h.2.2.2.1 j hj).2.2.2.2
    rw [List.eq_nil_of_length_eq_zero h0] at this
    cases this
theorem row_snoc {L : List Int} {k : Nat} (h : k < L.length) : rowT (L.take k) ++ ent (L.getD k 0) = rowT (L.take (k + 1)) := by
  rw [List.take_add_one, List.getElem?_eq_getElem h, ← getI_eq h]
  unfold rowT
  rw [List.flatMap_append]
  show _ = _ ++ (ent (L.getD k 0) ++ [])
  rw [List.append_nil]
theorem takeT_succ {l : List (List UInt8)} {i : Nat} (h : i < l.length) : l.take (i + 1) = l.take i ++ [l.getD i []] := by
  rw [List.take_add_one, List.getElem?_eq_getElem h, List.getD_eq_getElem?_getD, List.getElem?_eq_getElem h]; rfl
theorem chk_get {w : Nat} {E : List Int} {h r : Nat} (hr : r < h) : ((chk w E h).map rowT).getD r [] = rowT ((E.drop (r * w)).take w) := by
  unfold chk
  rw [List.map_map, List.getD_eq_getElem?_getD, List.getElem?_map, List.getElem?_range hr]; rfl
theorem take_getI {l : List Int} {k w : Nat} (h : k < w) : (l.take w).getD k 0 = l.getD k 0 := by
  rw [List.getD_eq_getElem?_getD, List.getElem?_take, if_pos h, List.getD_eq_getElem?_getD]
end Go.Fw.Cn
namespace Go.Fw.K
open Go Go.RowKit Go.Proofs Go.Fw Go.Fw.Cn
theorem itoa_con {n : Nat} (h : n < 100) : ConF Tryz.prog 30 [.int .i64 (n : Nat)] [] (fun v φo => v = .string (bs (dd n)) ∧ φo = []) := fun w _ => by
  refine (Tryz.strconv_Itoa_small n h w).mono ?_
  rintro e w' ⟨rfl, rfl⟩
  exact ⟨_, [], rfl, ⟨rfl, rfl⟩, Below.refl _ _, fun p hp => by cases hp⟩
theorem joinS_con {ad : Option Addr} {c : Nat} {xs : List (List UInt8)} {sep : List UInt8} (h0 : xs ≠ []) (hc : xs.length ≤ c) (hn : xs.length ≤ 1000) (hl : (jn sep xs).length ≤ 1000000) : ConF Tryz.prog 31 [.slice ad xs.length c, .string (bs sep)] [vCells ad (strs xs)] (fun v φo => v = .string (bs (jn sep xs)) ∧ φo = []) := fun w hin => by
  have hv : CellsAt (fun _ => False) w ad (strs xs) := hin _ List.mem_cons_self
  match xs, h0 with
  | x :: l, _ =>
    obtain ⟨b, o, e, _, hc0⟩ := hv 0 _ rfl
    subst e
    have hx : ((x :: l).map bs).map (fun y => y.data.toList) = x :: l := by rw [List.map_map]; simp [Function.comp_def]
    have h := Tryz.strings_Join b o c ((x :: l).map bs) (bs sep) w (fun j y hj => by
      obtain ⟨b', o', e, _, hc⟩ := hv j (.string y) (by
        rw [List.getElem?_map] at hj ⊢
        cases hq : (x :: l)[j]? with
        | none => rw [hq] at hj; cases hj
        | some z => rw [hq] at hj; rw [← Option.some.inj hj]; rfl)
      cases e; exact hc) (block_of_cell hc0) (by rw [List.length_map]; omega) (by rw [List.length_map]; exact hc) (by rw [hx, ← jn_join]; simp only []; omega)
    rw [hx] at h
    rw [List.length_map] at h
    have h2 : Calls Tryz.prog 31 #[.slice (some ⟨b, o, none⟩) (x :: l).length c, .string (bs sep)] w _ := h
    refine h2.mono ?_
    rintro e w' ⟨rfl, hb⟩
    exact ⟨_, [], rfl, ⟨by rw [jn_join], rfl⟩, hb, fun p hp => by cases hp⟩
end Go.Fw.K

/- Chapter 16: maps of matrices one after the other and back; graphs are alike exactly if their codes are the same, and their names. Plain. -/
namespace Go.Fw.Cn
open Go Go.RowKit Go.Fw
theorem getN_eq {l : List Nat} {i : Nat} (h : i < l.length) : l.getD i 0 = l[i] := by rw [List.getD_eq_getElem?_getD, List.getElem?_eq_getElem h]; rfl
theorem flatMap_inj {α β γ : Type} {f : α → List γ} {g : β → List γ} {c : Nat} : ∀ {l : List α} {m : List β}, l.length = m.length → (∀ a ∈ l, (f a).length = c) → (∀ b ∈ m, (g b).length = c) → l.flatMap f = m.flatMap g → ∀ i (h1 : i < l.length) (h2 : i < m.length), f l[i] = g m[i]
  | [], _, _, _, _, _, i, h1, _ => absurd h1 (Nat.not_lt_zero i)
  | _ :: _, [], h, _, _, _, _, _, _ => by cases h
  | a :: l, b :: m, hl, hf, hg, he, i, h1, h2 => by
    rw [List.flatMap_cons, List.flatMap_cons] at he
    obtain ⟨e1, e2⟩ := List.append_inj he (by rw [hf a List.mem_cons_self, hg b List.mem_cons_self])
    cases i with
    | zero => exact e1
    | succ i => exact flatMap_inj (l := l) (m := m) (by simpa using hl) (fun x hx => hf x (List.mem_cons_of_mem _ hx)) (fun x hx => hg x (List.mem_cons_of_mem _ hx)) e2 i _ _
theorem flatMap_ext' {α β γ : Type} {f : α → List γ} {g : β → List γ} : ∀ {l : List α} {m : List β}, l.length = m.length → (∀ i (h1 : i < l.length) (h2 : i < m.length), f l[i] = g m[i]) → l.flatMap f = m.flatMap g
  | [], [], _, _ => rfl
  | [], _ :: _, h, _ => by cases h
  | _ :: _, [], h, _ => by cases h
  | a :: l, b :: m, hl, he => by
    rw [List.flatMap_cons, List.flatMap_cons, show f a = g b from he 0 (by simp) (by simp), flatMap_ext' (l := l) (m := m) (by simpa using hl) fun i h1 h2 => he (i + 1) (by simpa using h1) (by simpa using h2)]
theorem wrB_eq {X Y : List (List Int)} {p p' q q' : List Nat} (hl : p.length = p'.length) (hq : q.length = q'.length) : wrB X p q = wrB Y p' q' ↔ ∀ i, i < p.length → ∀ k, k < q.length → en X (p.getD i 0) (q.getD k 0) = en Y (p'.getD i 0) (q'.getD k 0) := by
  constructor
  · intro h i hi k hk
    have h1 := flatMap_inj (c := q.length) hl (fun _ _ => List.length_map _) (fun _ _ => by rw [List.length_map, hq]) h i hi (by omega)
    have h2 := List.getElem_of_eq h1 (show k < _ by rw [List.length_map]; exact hk)
    rw [List.getElem_map, List.getElem_map] at h2
    rw [getN_eq hi, getN_eq hk, getN_eq (by omega), getN_eq (by omega)]; exact h2
  · intro h
    refine flatMap_ext' hl fun i h1 h2 => List.ext_getElem (by rw [List.length_map, List.length_map, hq]) fun k h3 h4 => ?_
    rw [List.length_map] at h3
    rw [List.getElem_map, List.getElem_map]
    have := h i h1 k h3
    rwa [getN_eq h1, getN_eq h3, getN_eq h2, getN_eq (by omega)] at this
theorem wr_eq {X Y : List (List Int)} {p p' q q' : List Nat} (hl : p.length = p'.length) (hq : q.length = q'.length) : wr X p q = wr Y p' q' ↔ ∀ i, i < p.length → ∀ k, k < q.length → en X (p.getD i 0) (q.getD k 0) = en Y (p'.getD i 0) (q'.getD k 0) := by
  rw [← wrB_eq hl hq]
  unfold wr
  rw [hl, hq]
  exact ⟨fun h => (List.cons.inj (List.cons.inj h).2).2, fun h => by rw [h]⟩
theorem range_getD {n i : Nat} (h : i < n) : (List.range n).getD i 0 = i := by rw [getN_eq (by rw [List.length_range]; exact h), List.getElem_range]
theorem mp_iff {X Y : List (List Int)} {w : Nat} {p q : List Nat} (hp : Pre X.length X.length p) (hq : Pre w w q) : mp X Y w p q ↔ ∀ i, i < X.length → ∀ k, k < w → en Y (p.getD i 0) (q.getD k 0) = en X i k := by
  unfold mp
  rw [wr_eq (by rw [hp.len, List.length_range]) (by rw [hq.len, List.length_range]), hp.len, hq.len]
  exact ⟨fun h i hi k hk => by have := h i hi k hk; rwa [range_getD hi, range_getD hk] at this, fun h i hi k hk => by rw [range_getD hi, range_getD hk]; exact h i hi k hk⟩
/-! ## Orders one after the other -/
def cmpo (p p' : List Nat) : List Nat := p'.map fun i => p.getD i 0
def invo (n : Nat) (p : List Nat) : List Nat := (List.range n).map fun v => p.idxOf v
section
variable {n : Nat} {p p' : List Nat}
theorem Pre.get (h : Pre n n p) {i : Nat} (hi : i < n) : p.getD i 0 < n := by
  rw [getN_eq (by rw [h.len]; exact hi)]; exact h.lt _ (List.getElem_mem _)
theorem Pre.inj (h : Pre n n p) {i j : Nat} (hi : i < n) (hj : j < n) (e : p.getD i 0 = p.getD j 0) : i = j := by
  rw [getN_eq (by rw [h.len]; exact hi), getN_eq (by rw [h.len]; exact hj)] at e
  exact (List.getElem_inj h.nd).1 e
theorem cmpo_get {i : Nat} (h : i < p'.length) : (cmpo p p').getD i 0 = p.getD (p'.getD i 0) 0 := by
  unfold cmpo
  rw [getN_eq (by rw [List.length_map]; exact h), List.getElem_map, getN_eq h]
theorem Pre.of {m : List Nat} (hl : m.length = n) (hlt : ∀ i, i < n → m.getD i 0 < n) (hinj : ∀ i j, i < n → j < n → m.getD i 0 = m.getD j 0 → i = j) : Pre n n m :=
  ⟨hl, List.pairwise_iff_getElem.2 fun i j hi hj hij e => by
    have := hinj i j (by omega) (by omega) (by rw [getN_eq hi, getN_eq hj]; exact e)
    omega, fun v hv => by
    obtain ⟨i, hi, rfl⟩ := List.mem_iff_getElem.1 hv
    have := hlt i (by omega)
    rwa [getN_eq hi] at this⟩
theorem cmpo_pre (h : Pre n n p) (h' : Pre n n p') : Pre n n (cmpo p p') :=
  Pre.of (by unfold cmpo; rw [List.length_map, h'.len]) (fun i hi => by rw [cmpo_get (by rw [h'.len]; exact hi)]; exact h.get (h'.get hi)) fun i j hi hj e => by
    rw [cmpo_get (by rw [h'.len]; exact hi), cmpo_get (by rw [h'.len]; exact hj)] at e
    exact h'.inj hi hj (h.inj (h'.get hi) (h'.get hj) e)
theorem Pre.mem (h : Pre n n p) {v : Nat} (hv : v < n) : v ∈ p := h.perm.mem_iff.2 (List.mem_range.2 hv)
theorem invo_get {v : Nat} (hv : v < n) : (invo n p).getD v 0 = p.idxOf v := by
  unfold invo
  rw [getN_eq (by rw [List.length_map, List.length_range]; exact hv), List.getElem_map, List.getElem_range]
theorem invo_len : (invo n p).length = n := by unfold invo; rw [List.length_map, List.length_range]
theorem invo_right (h : Pre n n p) {v : Nat} (hv : v < n) : p.getD ((invo n p).getD v 0) 0 = v := by
  have := List.idxOf_lt_length_of_mem (h.mem hv)
  rw [invo_get hv, getN_eq this, List.getElem_idxOf]
theorem invo_lt (h : Pre n n p) {v : Nat} (hv : v < n) : (invo n p).getD v 0 < n := by
  have := List.idxOf_lt_length_of_mem (h.mem hv)
  rw [invo_get hv]; rw [h.len] at this; exact this
theorem invo_pre (h : Pre n n p) : Pre n n (invo n p) := Pre.of invo_len (fun _ hi => invo_lt h hi) fun i j hi hj e => by rw [← invo_right h hi, ← invo_right h hj, e]
theorem invo_left (h : Pre n n p) {i : Nat} (hi : i < n) : (invo n p).getD (p.getD i 0) 0 = i := h.inj (invo_lt h (h.get hi)) hi (invo_right h (h.get hi))
end
/-! ## Maps one after the other -/
section
variable {X Y Z : List (List Int)} {w : Nat} {p q p' q' : List Nat}
theorem mp_back (hXY : X.length = Y.length) (hp : Pre X.length X.length p) (hq : Pre w w q) (h : mp X Y w p q) : mp Y X w (invo X.length p) (invo w q) := by
  rw [mp_iff (by rw [← hXY]; exact invo_pre hp) (invo_pre hq)]
  intro i hi k hk
  rw [← hXY] at hi
  have := (mp_iff hp hq).1 h _ (invo_lt hp hi) _ (invo_lt hq hk)
  rw [invo_right hp hi, invo_right hq hk] at this
  exact this.symm
theorem mp_then (hXY : X.length = Y.length) (hp : Pre X.length X.length p) (hq : Pre w w q) (h : mp X Y w p q) (hp' : Pre X.length X.length p') (hq' : Pre w w q') (h' : mp Y Z w p' q') : mp X Z w (cmpo p' p) (cmpo q' q) := by
  rw [mp_iff (cmpo_pre hp' hp) (cmpo_pre hq' hq)]
  intro i hi k hk
  rw [cmpo_get (by rw [hp.len]; exact hi), cmpo_get (by rw [hq.len]; exact hk), (mp_iff (by rw [← hXY]; exact hp') hq').1 h' _ (by rw [← hXY]; exact hp.get hi) _ (hq.get hk), (mp_iff hp hq).1 h i hi k hk]
theorem mp_wr (hp : Pre X.length X.length p) (hq : Pre w w q) (h : mp X Y w p q) (hp' : Pre X.length X.length p') (hq' : Pre w w q') : wr Y (cmpo p p') (cmpo q q') = wr X p' q' := by
  have l1 : (cmpo p p').length = p'.length := List.length_map _
  have l2 : (cmpo q q').length = q'.length := List.length_map _
  rw [wr_eq l1 l2, l1, l2]
  intro i hi k hk
  rw [cmpo_get hi, cmpo_get hk]
  rw [hp'.len] at hi; rw [hq'.len] at hk
  exact (mp_iff hp hq).1 h _ (hp'.get hi) _ (hq'.get hk)
theorem code_le {B B' : List Int} (hXY : X.length = Y.length) (hp : Pre X.length X.length p) (hq : Pre w w q) (h : mp X Y w p q) (hB : IsCode X w B) (hB' : IsCode Y w B') : leL B' B := by
  obtain ⟨⟨p1, q1, h1, h2, rfl⟩, _⟩ := hB
  rw [← mp_wr hp hq h h1 h2]
  exact hB'.2 _ _ (by rw [← hXY]; exact cmpo_pre hp h1) (cmpo_pre hq h2)
theorem code_same {B B' : List Int} (hXY : X.length = Y.length) (hp : Pre X.length X.length p) (hq : Pre w w q) (h : mp X Y w p q) (hB : IsCode X w B) (hB' : IsCode Y w B') : B = B' :=
  (code_le hXY.symm (by rw [← hXY]; exact invo_pre hp) (invo_pre hq) (mp_back hXY hp hq h) hB' hB).anti (code_le hXY hp hq h hB hB')
theorem code_mp {B : List Int} (hXY : X.length = Y.length) (hB : IsCode X w B) (hB' : IsCode Y w B) : ∃ p q, Pre X.length X.length p ∧ Pre w w q ∧ mp X Y w p q := by
  obtain ⟨⟨p1, q1, h1, h2, e1⟩, _⟩ := hB
  obtain ⟨⟨p2, q2, h3, h4, e2⟩, _⟩ := hB'
  rw [← hXY] at h3
  have he := (wr_eq (by rw [h1.len, h3.len]) (by rw [h2.len, h4.len])).1 (e1.symm.trans e2)
  rw [h1.len, h2.len] at he
  refine ⟨cmpo p2 (invo X.length p1), cmpo q2 (invo w q1), cmpo_pre h3 (invo_pre h1), cmpo_pre h4 (invo_pre h2), (mp_iff (cmpo_pre h3 (invo_pre h1)) (cmpo_pre h4 (invo_pre h2))).2 fun i hi k hk => ?_⟩
  rw [cmpo_get (by rw [invo_len]; exact hi), cmpo_get (by rw [invo_len]; exact hk), ← he _ (invo_lt h1 hi) _ (invo_lt h2 hk), invo_right h1 hi, invo_right h2 hk]
theorem mp_id : mp X X w (List.range X.length) (List.range w) := rfl
/-! ## How many maps to itself -/
theorem ordF_nodup (n : Nat) : ∀ k, (ordF n k).Nodup
  | 0 => by rw [ordF]; exact List.nodup_cons.2 ⟨by simp, List.nodup_nil⟩
  | k + 1 => by
    rw [ordF]
    refine List.pairwise_flatMap.2 ⟨fun p _ => ?_, (ordF_nodup n k).imp fun {p p'} hne x hx y hy e => ?_⟩
    · unfold ext
      refine List.pairwise_map.2 ((List.nodup_range.filter _).imp fun {a b} hab e => hab ?_)
      have := List.append_cancel_left e
      simpa using this
    · obtain ⟨v, _, _, rfl⟩ := mem_ext.1 hx
      obtain ⟨v', _, _, rfl⟩ := mem_ext.1 hy
      exact hne (List.append_inj_left' e rfl)
def symL (X : List (List Int)) (w : Nat) : List (List Nat × List Nat) := (ordF X.length X.length).flatMap fun p => ((ordF w w).filter fun q => decide (mp X X w p q)).map fun q => (p, q)
theorem symL_len (X : List (List Int)) (w : Nat) : (symL X w).length = nM X X w := by
  unfold symL nM
  rw [List.length_flatMap]
  congr 1
  exact List.map_congr_left fun p _ => List.length_map _
theorem mem_symL {x : List Nat × List Nat} : x ∈ symL X w ↔ Pre X.length X.length x.1 ∧ Pre w w x.2 ∧ mp X X w x.1 x.2 := by
  unfold symL
  rw [List.mem_flatMap]
  constructor
  · rintro ⟨p, hp, h⟩
    obtain ⟨q, hq, rfl⟩ := List.mem_map.1 h
    obtain ⟨h1, h2⟩ := List.mem_filter.1 hq
    exact ⟨mem_ordF.1 hp, mem_ordF.1 h1, of_decide_eq_true h2⟩
  · rintro ⟨h1, h2, h3⟩
    exact ⟨x.1, mem_ordF.2 h1, List.mem_map.2 ⟨x.2, List.mem_filter.2 ⟨mem_ordF.2 h2, decide_eq_true h3⟩, rfl⟩⟩
theorem symL_nodup (X : List (List Int)) (w : Nat) : (symL X w).Nodup := by
  refine List.pairwise_flatMap.2 ⟨fun p _ => ?_, (ordF_nodup _ _).imp fun {p p'} hne x hx y hy e => ?_⟩
  · exact List.pairwise_map.2 (((ordF_nodup w w).filter _).imp fun {a b} hab e => hab (Prod.mk.inj e).2)
  · obtain ⟨_, _, rfl⟩ := List.mem_map.1 hx
    obtain ⟨_, _, rfl⟩ := List.mem_map.1 hy
    exact hne (Prod.mk.inj e).1
theorem sub_lenG {α : Type} [DecidableEq α] {l m : List α} (nd : l.Nodup) (hs : ∀ x ∈ l, x ∈ m) : l.length ≤ m.length := by
  induction l generalizing m with
  | nil => exact Nat.zero_le _
  | cons a l ih =>
    obtain ⟨h1, h2⟩ := List.nodup_cons.1 nd
    have ha := hs a List.mem_cons_self
    have := ih (m := m.erase a) h2 fun x hx => (List.mem_erase_of_ne fun e : x = a => h1 (e ▸ hx)).2 (hs x (List.mem_cons_of_mem _ hx))
    rw [List.length_erase_of_mem ha] at this
    have := List.length_pos_of_mem ha
    rw [List.length_cons]; omega
theorem ext_of {n : Nat} (hp : Pre n n p) (hp' : Pre n n p') (h : ∀ i, i < n → p.getD i 0 = p'.getD i 0) : p = p' :=
  List.ext_getElem (by rw [hp.len, hp'.len]) fun i h1 h2 => by
    have := h i (by rw [← hp.len]; exact h1)
    rwa [getN_eq h1, getN_eq h2] at this
/-- The map of X to itself as one of Y. -/
def cnj (n : Nat) (p a : List Nat) : List Nat := cmpo (cmpo p a) (invo n p)
theorem cnj_pre {n : Nat} {a : List Nat} (hp : Pre n n p) (ha : Pre n n a) : Pre n n (cnj n p a) := cmpo_pre (cmpo_pre hp ha) (invo_pre hp)
theorem cnj_inj {n : Nat} {a b : List Nat} (hp : Pre n n p) (ha : Pre n n a) (hb : Pre n n b) (e : cnj n p a = cnj n p b) : a = b := by
  refine ext_of ha hb fun i hi => ?_
  have h1 := congrArg (fun l => l.getD (p.getD i 0) 0) e
  have hg : ∀ {c : List Nat}, Pre n n c → (cnj n p c).getD (p.getD i 0) 0 = p.getD (c.getD i 0) 0 := fun {c} hc => by
    unfold cnj
    rw [cmpo_get (by rw [invo_len]; exact hp.get hi), invo_left hp hi, cmpo_get (by rw [hc.len]; exact hi)]
  have h2 : (cnj n p a).getD (p.getD i 0) 0 = (cnj n p b).getD (p.getD i 0) 0 := h1
  rw [hg ha, hg hb] at h2
  exact hp.inj (ha.get hi) (hb.get hi) h2
theorem nM_le_of (hXY : X.length = Y.length) (hp : Pre X.length X.length p) (hq : Pre w w q) (h : mp X Y w p q) : nM X X w ≤ nM Y Y w := by
  rw [← symL_len, ← symL_len]
  have h1 : ((symL X w).map fun x => (cnj X.length p x.1, cnj w q x.2)).length = (symL X w).length := List.length_map _
  rw [← h1]
  refine sub_lenG (List.pairwise_map.2 ?_) fun y hy => ?_
  · refine List.Pairwise.imp_of_mem ?_ (symL_nodup X w)
    intro a b ha hb hab e
    obtain ⟨a1, a2, _⟩ := mem_symL.1 ha
    obtain ⟨b1, b2, _⟩ := mem_symL.1 hb
    obtain ⟨e1, e2⟩ := Prod.mk.inj e
    exact hab (Prod.ext (cnj_inj hp a1 b1 e1) (cnj_inj hq a2 b2 e2))
  · obtain ⟨x, hx, rfl⟩ := List.mem_map.1 hy
    obtain ⟨a1, a2, a3⟩ := mem_symL.1 hx
    refine mem_symL.2 ⟨by rw [← hXY]; exact cnj_pre hp a1, cnj_pre hq a2, ?_⟩
    have b1 := mp_back hXY hp hq h
    have b2 := mp_then rfl a1 a2 a3 hp hq h
    have b3 := mp_then (X := Y) (Y := X) (Z := Y) hXY.symm (by rw [← hXY]; exact invo_pre hp) (invo_pre hq) b1 (by rw [← hXY]; exact cmpo_pre hp a1) (cmpo_pre hq a2) b2
    exact b3
theorem nM_same (hXY : X.length = Y.length) (hp : Pre X.length X.length p) (hq : Pre w w q) (h : mp X Y w p q) : nM X X w = nM Y Y w :=
  Nat.le_antisymm (nM_le_of hXY hp hq h) (nM_le_of hXY.symm (by rw [← hXY]; exact invo_pre hp) (invo_pre hq) (mp_back hXY hp hq h))
theorem nM_pos : 1 ≤ nM X X w := by
  rw [← symL_len]
  exact List.length_pos_of_mem (mem_symL.2 ⟨pre_range _, pre_range _, mp_id⟩ : (List.range X.length, List.range w) ∈ symL X w)
end
/-! ## Graphs that are alike -/
section
variable {O R O2 R2 : List Int} {K K2 : List Lk} {o : Option (List Nat × List Nat)} {e : Int} {B B2 : List Int}
theorem code_dims (h : IsCode (matG O R K) R.length B) : ∃ E, B = (O.length : Int) :: (R.length : Int) :: E := by
  obtain ⟨⟨p, q, hp, hq, rfl⟩, _⟩ := h
  rw [matG_len] at hp
  exact ⟨wrB _ p q, by unfold wr; rw [hp.len, hq.len]⟩
theorem mErr_0 : mErr o = 0 ↔ o ≠ none := by
  cases o with
  | none => exact ⟨fun h => absurd h (by decide), fun h => absurd rfl h⟩
  | some x => exact ⟨fun _ => by simp, fun _ => rfl⟩
theorem alike_map (h1 : errG O R K = 0) (h2 : errG O2 R2 K2 = 0) (hM : MapS O R K O2 R2 K2 o e) : e = 0 ↔ O.length = O2.length ∧ R.length = R2.length ∧ ∃ p q, Pre (matG O R K).length (matG O R K).length p ∧ Pre R.length R.length q ∧ mp (matG O R K) (matG O2 R2 K2) R.length p q := by
  obtain ⟨v1, b1, b2⟩ := errG_0.1 h1
  obtain ⟨v2, b3, b4⟩ := errG_0.1 h2
  rcases hM with ⟨a, _, _⟩ | ⟨_, _, a, _, _⟩ | ⟨_, _, _, _, a, _, rfl⟩ | ⟨_, _, _, _, a5, a6, b, rfl⟩
  · exact absurd ⟨v1, v2⟩ a
  · unfold bigG at a; omega
  · exact ⟨fun h => absurd h (by decide), fun h => by omega⟩
  · rw [mErr_0, Ne, b.none_iff]
    constructor
    · intro h
      refine ⟨a5, a6, Classical.byContradiction fun hn => h fun p q hp hq hm => hn ⟨p, q, hp, hq, hm⟩⟩
    · rintro ⟨_, _, p, q, hp, hq, hm⟩ h
      exact h p q hp hq hm
theorem alike_code (h1 : errG O R K = 0) (h2 : errG O2 R2 K2 = 0) (hB : IsCode (matG O R K) R.length B) (hB2 : IsCode (matG O2 R2 K2) R2.length B2) (hM : MapS O R K O2 R2 K2 o e) : e = 0 ↔ B = B2 := by
  rw [alike_map h1 h2 hM]
  constructor
  · rintro ⟨e1, e2, p, q, hp, hq, hm⟩
    rw [← e2] at hB2
    exact code_same (by rw [matG_len, matG_len, e1]) hp hq hm hB hB2
  · rintro rfl
    obtain ⟨E, d1⟩ := code_dims hB
    obtain ⟨E2, d2⟩ := code_dims hB2
    rw [d1] at d2
    obtain ⟨d3, d4⟩ := List.cons.inj d2
    have e1 : O.length = O2.length := by omega
    have e2 : R.length = R2.length := by have := (List.cons.inj d4).1; omega
    refine ⟨e1, e2, ?_⟩
    rw [← e2] at hB2
    exact code_mp (by rw [matG_len, matG_len, e1]) hB hB2
theorem alike_no (h : errG O R K ≠ 0 ∨ errG O2 R2 K2 ≠ 0) (hM : MapS O R K O2 R2 K2 o e) : e ≠ 0 := by
  intro he
  rcases hM with ⟨_, _, a⟩ | ⟨_, _, _, _, a⟩ | ⟨_, _, _, _, _, _, a⟩ | ⟨v1, v2, b1, b2, _, _, _, _⟩
  · omega
  · omega
  · omega
  · exact h.elim (fun h => h (errG_ok v1 b1)) (fun h => h (errG_ok v2 b2))
theorem name_code {T T2 : List UInt8} (h1 : errG O R K = 0) (h2 : errG O2 R2 K2 = 0) (hB : IsCode (matG O R K) R.length B) (hB2 : IsCode (matG O2 R2 K2) R2.length B2) (hT : ∃ B, IsCode (matG O R K) R.length B ∧ T = nameT O.length R.length (B.drop 2)) (hT2 : ∃ B, IsCode (matG O2 R2 K2) R2.length B ∧ T2 = nameT O2.length R2.length (B.drop 2)) : T = T2 ↔ B = B2 := by
  obtain ⟨v1, b1, b2⟩ := errG_0.1 h1
  obtain ⟨v2, b3, b4⟩ := errG_0.1 h2
  obtain ⟨B', hB', rfl⟩ := hT
  obtain ⟨B2', hB2', rfl⟩ := hT2
  obtain rfl := hB'.uniq hB
  obtain rfl := hB2'.uniq hB2
  obtain ⟨o1, _, _, l1⟩ := code_okE v1.2.2.1 hB
  obtain ⟨o2, _, _, l2⟩ := code_okE v2.2.2.1 hB2
  obtain ⟨E, d1⟩ := code_dims hB
  obtain ⟨E2, d2⟩ := code_dims hB2
  constructor
  · intro h
    obtain ⟨e1, e2, e3⟩ := nameT_inj (by omega) (by omega) (by omega) (by omega) l1 l2 o1 o2 h
    rw [d1, d2] at e3 ⊢
    have e3 : E = E2 := e3
    rw [e1, e2, e3]
  · intro h
    rw [d1, d2] at h
    obtain ⟨d3, d4⟩ := List.cons.inj h
    have e1 : O.length = O2.length := by omega
    have e2 : R.length = R2.length := by have := (List.cons.inj d4).1; omega
    have e3 : E = E2 := (List.cons.inj d4).2
    rw [d1, d2, e1, e2, e3]
theorem alike_syms (h1 : errG O R K = 0) (h2 : errG O2 R2 K2 = 0) (hM : MapS O R K O2 R2 K2 o e) (he : e = 0) : nM (matG O R K) (matG O R K) R.length = nM (matG O2 R2 K2) (matG O2 R2 K2) R2.length := by
  obtain ⟨e1, e2, p, q, hp, hq, hm⟩ := (alike_map h1 h2 hM).1 he
  rw [← e2]
  exact nM_same (by rw [matG_len, matG_len, e1]) hp hq hm
end
/-! ## The document's example -/
def PK : List Lk := [⟨3, 1, 4⟩, ⟨5, 3, 4⟩, ⟨7, 1, 2⟩]
theorem ex_err : errG [1, 3] [2, 4] PK = 0 := by decide
theorem ex_code {B : List Int} (h : IsCode (matG [1, 3] [2, 4] PK) ([2, 4] : List Int).length B) : B = [2, 2, 0, 1, 1, 1] := by
  obtain ⟨B', h1, h2⟩ := cdS_all (matG [1, 3] [2, 4] PK) 2
  have h3 : foldS (cdS (matG [1, 3] [2, 4] PK) 2) [] (ordF (matG [1, 3] [2, 4] PK).length (matG [1, 3] [2, 4] PK).length) = ([2, 2, 0, 1, 1, 1], true) := by decide +kernel
  rw [h1] at h3
  rw [IsCode.uniq h h2]
  exact congrArg Prod.fst h3
theorem ex_name {T : List UInt8} (h : ∃ B, IsCode (matG [1, 3] [2, 4] PK) ([2, 4] : List Int).length B ∧ T = nameT ([1, 3] : List Int).length ([2, 4] : List Int).length (B.drop 2)) : T = [50, 120, 50, 58, 48, 49, 47, 49, 49] := by
  obtain ⟨B, hB, rfl⟩ := h
  rw [ex_code hB]
  have e0 : dd 0 = [48] := Lib.decDigits_one (by decide)
  have e1 : dd 1 = [49] := Lib.decDigits_one (by decide)
  have e2 : dd 2 = [50] := Lib.decDigits_one (by decide)
  have n0 : ent 0 = dd 0 := rfl
  have n1 : ent 1 = dd 1 := rfl
  have r0 : rowT [0, 1] = [48, 49] := by show ent 0 ++ (ent 1 ++ []) = _; rw [n0, n1, e0, e1]; rfl
  have r1 : rowT [1, 1] = [49, 49] := by show ent 1 ++ (ent 1 ++ []) = _; rw [n1, e1]; rfl
  show dd 2 ++ [120] ++ dd 2 ++ [58] ++ (rowT [0, 1] ++ [47] ++ rowT [1, 1]) = _
  rw [e2, r0, r1]; rfl
theorem ex_sym : nM (matG [1, 3] [2, 4] PK) (matG [1, 3] [2, 4] PK) ([2, 4] : List Int).length = 1 := by decide +kernel
/-- Graphs with at most four dies of a side, or with more than six of one. -/
def fewG (O R : List Int) (K : List Lk) : Prop := O.length ≤ 40 ∧ R.length ≤ 40 ∧ K.length ≤ 70 ∧ (O.length ≤ 4 ∧ R.length ≤ 4 ∨ 6 < O.length ∨ 6 < R.length)
instance (O R : List Int) (K : List Lk) : Decidable (fewG O R K) := by unfold fewG; infer_instance
theorem bs_list (l : List UInt8) : (bs l).toList = l := by rw [ByteArray.toList_eq]
theorem bs_beq_true {a b : List UInt8} (h : a = b) : ((bs a).toList == (bs b).toList) = true := by rw [h]; exact beq_self_eq_true _
theorem bs_beq_false {a b : List UInt8} (h : a ≠ b) : ((bs a).toList == (bs b).toList) = false := by rw [bs_list, bs_list]; exact beq_eq_false_iff_ne.2 h
end Go.Fw.Cn

/- Chapter 16: what the references make: rows of matrices. Orders again. Plain. -/
namespace Go.Fw.Cn
open Go Go.RowKit Go.Fw
section
variable {R : List Int} {K : List Lk} {o : Int}
/-- A row of a matrix, its first k numbers done, of the next one the first j links. -/
def rwK (R : List Int) (K : List Lk) (o : Int) (k j : Nat) : List Int := (List.range R.length).map fun m => if m < k then (cntK K o (R.getD m 0) : Int) else if m = k then (cntK (K.take j) o (R.getD m 0) : Int) else 0
theorem rwK_len {k j : Nat} : (rwK R K o k j).length = R.length := by unfold rwK; rw [List.length_map, List.length_range]
theorem rwK_get {k j m : Nat} (h : m < R.length) : (rwK R K o k j).getD m 0 = if m < k then (cntK K o (R.getD m 0) : Int) else if m = k then (cntK (K.take j) o (R.getD m 0) : Int) else 0 := by
  unfold rwK
  rw [List.getD_eq_getElem?_getD, List.getElem?_map, List.getElem?_range h]; rfl
theorem and3 (a b : Prop) : ¬ a ∨ (a ∧ ¬ b) ∨ (a ∧ b) := by
  by_cases h1 : a <;> by_cases h2 : b <;> simp [h1, h2]
theorem cntK_nil (o r : Int) : cntK [] o r = 0 := rfl
theorem ext_I {L M : List Int} (hl : L.length = M.length) (h : ∀ j, j < L.length → L.getD j 0 = M.getD j 0) : L = M := list_eq_of hl h
theorem rwK_zero : rwK R K o 0 0 = List.replicate R.length 0 := by
  refine list_eq_of (by rw [rwK_len, List.length_replicate]) fun m hm => ?_
  rw [rwK_len] at hm
  rw [rwK_get hm, if_neg (Nat.not_lt_zero m), List.take_zero, cntK_nil, List.getD_eq_getElem?_getD, List.getElem?_replicate, if_pos hm]
  split <;> rfl
theorem rwK_all : rwK R K o R.length 0 = R.map fun r => (cntK K o r : Int) := by
  refine list_eq_of (by rw [rwK_len, List.length_map]) fun m hm => ?_
  rw [rwK_len] at hm
  rw [rwK_get hm, if_pos hm, List.getD_eq_getElem?_getD (l := R.map _), List.getElem?_map, List.getElem?_eq_getElem hm, getI_eq hm]; rfl
theorem rwK_next {k : Nat} : rwK R K o k K.length = rwK R K o (k + 1) 0 := by
  refine list_eq_of (by rw [rwK_len, rwK_len]) fun m hm => ?_
  rw [rwK_len] at hm
  rw [rwK_get hm, rwK_get hm, List.take_length, List.take_zero, cntK_nil]
  by_cases h1 : m < k
  · rw [if_pos h1, if_pos (by omega)]
  · by_cases h2 : m = k
    · rw [if_neg h1, if_pos h2, if_pos (by omega)]
    · rw [if_neg h1, if_neg h2, if_neg (by omega)]; split <;> rfl
theorem cnt_take {j : Nat} (hj : j < K.length) (r : Int) : cntK (K.take (j + 1)) o r = cntK (K.take j) o r + if (K.getD j dK).o = o ∧ (K.getD j dK).r = r then 1 else 0 := by
  rw [takeK_succ hj, cntK_snoc]
theorem rwK_yes {k j : Nat} (hk : k < R.length) (hj : j < K.length) (h : (K.getD j dK).o = o ∧ (K.getD j dK).r = R.getD k 0) : (rwK R K o k j).set k ((rwK R K o k j).getD k 0 + 1) = rwK R K o k (j + 1) := by
  refine list_eq_of (by rw [List.length_set, rwK_len, rwK_len]) fun m hm => ?_
  rw [List.length_set, rwK_len] at hm
  rw [rwK_get hm, getI_eq (by rw [List.length_set, rwK_len]; exact hm), List.getElem_set]
  by_cases e : k = m
  · subst e
    rw [if_pos rfl, rwK_get hk, if_neg (Nat.lt_irrefl k), if_pos rfl, if_neg (Nat.lt_irrefl k), if_pos rfl, cnt_take hj, if_pos h]; omega
  · rw [if_neg e, ← getI_eq (by rw [rwK_len]; exact hm), rwK_get hm]
    simp only [show ¬ m = k from fun c => e c.symm, if_false]
theorem rwK_no {k j : Nat} (_hk : k < R.length) (hj : j < K.length) (h : ¬ ((K.getD j dK).o = o ∧ (K.getD j dK).r = R.getD k 0)) : rwK R K o k j = rwK R K o k (j + 1) := by
  refine list_eq_of (by rw [rwK_len, rwK_len]) fun m hm => ?_
  rw [rwK_len] at hm
  rw [rwK_get hm, rwK_get hm]
  by_cases e : m = k
  · subst e
    rw [if_neg (Nat.lt_irrefl m), if_pos rfl, if_neg (Nat.lt_irrefl m), if_pos rfl, cnt_take hj, if_neg h, Nat.add_zero]
  · rw [if_neg e, if_neg e]
theorem rwK_val {k j : Nat} (hk : k < R.length) : 0 ≤ (rwK R K o k j).getD k 0 ∧ (rwK R K o k j).getD k 0 ≤ K.length := by
  rw [rwK_get hk, if_neg (Nat.lt_irrefl k), if_pos rfl]
  have := cntK_le (K.take j) o (R.getD k 0)
  rw [List.length_take] at this
  omega
theorem matG_take {O : List Int} {i : Nat} (hi : i < O.length) : (matG O R K).take (i + 1) = (matG O R K).take i ++ [R.map fun r => (cntK K (O.getD i 0) r : Int)] := by
  have h := take_succ_getD (l := matG O R K) (k := i) (by rw [matG_len]; exact hi)
  rw [h]
  congr 2
  unfold matG
  rw [List.getD_eq_getElem?_getD, List.getElem?_map, List.getElem?_eq_getElem hi, getI_eq hi]; rfl
end
section
variable {n : Nat} {p : List Nat}
theorem zs_getI {i : Nat} (h : i < p.length) : (zs p).getD i 0 = ((p.getD i 0 : Nat) : Int) := by
  unfold zs
  rw [List.getD_eq_getElem?_getD, List.getElem?_map, List.getElem?_eq_getElem h, List.getD_eq_getElem?_getD, List.getElem?_eq_getElem h]; rfl
theorem ordZ (hp : Pre n n p) {i : Nat} (h : i < n) : 0 ≤ (zs p).getD i 0 ∧ (zs p).getD i 0 < n := by
  rw [zs_getI (by rw [hp.len]; exact h)]
  have := hp.get h
  omega
theorem ordZ_ne (hp : Pre n n p) {i j : Nat} (h : i < n) (hj : j < i) : (zs p).getD i 0 ≠ (zs p).getD j 0 := by
  rw [zs_getI (by rw [hp.len]; exact h), zs_getI (by rw [hp.len]; omega)]
  intro e
  have := hp.inj h (by omega) (Int.ofNat.inj e)
  omega
end
end Go.Fw.Cn

/- Chapter 16: what a map that has been found is. Plain. -/
namespace Go.Fw.Cn
open Go Go.RowKit Go.Fw
section
variable {O R O2 R2 : List Int} {K K2 : List Lk} {o : Option (List Nat × List Nat)} {e : Int}
theorem map_none (h : MapS O R K O2 R2 K2 o e) (he : e ≠ 0) : o = none := by
  rcases h with ⟨_, a, _⟩ | ⟨_, _, _, a, _⟩ | ⟨_, _, _, _, _, a, _⟩ | ⟨_, _, _, _, _, _, _, a⟩
  · exact a
  · exact a
  · exact a
  · exact Classical.byContradiction fun hn => he (a.trans (mErr_0.2 hn))
theorem map_some (h : MapS O R K O2 R2 K2 o e) (he : e = 0) : ∃ p q, o = some (p, q) ∧ valG O R K ∧ valG O2 R2 K2 ∧ O.length ≤ 6 ∧ R.length ≤ 6 ∧ O2.length ≤ 6 ∧ R2.length ≤ 6 ∧ O.length = O2.length ∧ R.length = R2.length ∧ Pre O.length O.length p ∧ Pre R.length R.length q ∧ mp (matG O R K) (matG O2 R2 K2) R.length p q := by
  rcases h with ⟨_, _, a⟩ | ⟨_, _, _, _, a⟩ | ⟨_, _, _, _, _, _, a⟩ | ⟨v1, v2, b1, b2, e1, e2, hf, a⟩
  · omega
  · omega
  · omega
  · cases o with
    | none => exact absurd rfl (mErr_0.1 (a.symm.trans he))
    | some x =>
      obtain ⟨p, q⟩ := x
      obtain ⟨h1, h2, h3⟩ := hf.mp
      rw [matG_len] at h1
      unfold bigG at b1 b2
      exact ⟨p, q, rfl, v1, v2, by omega, by omega, by omega, by omega, e1, e2, h1, h2, h3⟩
theorem mat_ok {D : List Rw} {x : Int} (hv : valG O R K) (h : (valG O R K ∧ e = 0 ∧ Rls D = matG O R K) ∨ (¬ valG O R K ∧ e = x ∧ D = [])) : e = 0 ∧ Rls D = matG O R K := by
  rcases h with ⟨_, a, b⟩ | ⟨a, _, _⟩
  · exact ⟨a, b⟩
  · exact absurd hv a
theorem lead_eq {X Y : List (List Int)} {w i k : Nat} {p q : List Nat} (hp : Pre X.length X.length p) (hq : Pre w w q) (h : mp X Y w p q) (hi : i < X.length) (hk : k < w) : (X.getD i []).getD k 0 = (Y.getD (p.getD i 0) []).getD (q.getD k 0) 0 := ((mp_iff hp hq).1 h i hi k hk).symm
end
end Go.Fw.Cn

/- Chapter 16: what the reference makes: all orders, one after the other; a matrix as a list, number by number; the first difference of two lists. Plain. -/
namespace Go.Fw.Cn
open Go Go.RowKit Go.Fw
/-! ## Orders -/
def oTo (n k i v : Nat) : List (List Nat) := ((ordF n k).take i).flatMap (ext n) ++ ((List.range v).filter fun u => decide (u ∉ (ordF n k).getD i [])).map fun u => (ordF n k).getD i [] ++ [u]
theorem oTo_zero (n k : Nat) : oTo n k 0 0 = [] := rfl
theorem oTo_no {n k i v : Nat} (h : v ∈ (ordF n k).getD i []) : oTo n k i (v + 1) = oTo n k i v := by
  unfold oTo
  rw [List.range_succ, List.filter_append, List.filter_cons_of_neg (by simpa using h), List.filter_nil, List.append_nil]
theorem oTo_yes {n k i v : Nat} (h : v ∉ (ordF n k).getD i []) : oTo n k i (v + 1) = oTo n k i v ++ [(ordF n k).getD i [] ++ [v]] := by
  unfold oTo
  rw [List.range_succ, List.filter_append, List.filter_cons_of_pos (by simpa using h), List.filter_nil, List.map_append, List.append_assoc]; rfl
theorem oTo_row {n k i : Nat} (h : i < (ordF n k).length) : oTo n k i n = oTo n k (i + 1) 0 := by
  unfold oTo
  rw [takeL_succ h, List.flatMap_append, List.range_zero, List.filter_nil, List.map_nil, List.append_nil]
  congr 1
  show _ = ext n _ ++ []
  rw [List.append_nil]; rfl
theorem oTo_all (n k : Nat) : oTo n k (ordF n k).length 0 = ordF n (k + 1) := by
  unfold oTo
  rw [List.take_length, List.range_zero, List.filter_nil, List.map_nil, List.append_nil, ordF]
theorem pow_le6 {n k : Nat} (hn : n ≤ 6) (hk : k ≤ 6) : n ^ k ≤ 46656 :=
  Nat.le_trans (Nat.pow_le_pow_left hn k) (Nat.le_trans (Nat.pow_le_pow_right (by decide) hk) (by decide))
theorem ordF_le {n k : Nat} (hn : n ≤ 6) (hk : k ≤ n) : (ordF n k).length ≤ 46656 := Nat.le_trans (ordF_len_le n k) (pow_le6 hn (by omega))
theorem oTo_le {n k i v : Nat} (hn : n ≤ 6) (hk : k ≤ n) (hv : v ≤ n) : (oTo n k i v).length ≤ 300000 := by
  unfold oTo
  rw [List.length_append, List.length_map]
  have h1 := len_flatMap_le (f := ext n) (c := 6) (l := (ordF n k).take i) fun p _ => by
    unfold ext
    rw [List.length_map]
    exact Nat.le_trans (List.length_filter_le _ _) (by rw [List.length_range]; exact hn)
  have h2 : ((List.range v).filter fun u => decide (u ∉ (ordF n k).getD i [])).length ≤ v := Nat.le_trans (List.length_filter_le _ _) (Nat.le_of_eq List.length_range)
  have h3 := ordF_le hn hk
  rw [List.length_take] at h1
  omega
theorem ord_len {n k i : Nat} (h : i < (ordF n k).length) : ((ordF n k).getD i []).length = k := by
  rw [List.getD_eq_getElem?_getD, List.getElem?_eq_getElem h]
  exact (mem_ordF.1 (List.getElem_mem h)).len
theorem ordF_pos (n : Nat) : 0 < (ordF n n).length := List.length_pos_of_mem (mem_ordF.2 (pre_range n))
/-! ## Rows of orders in memory -/
theorem rowsZ_len {D : List Rw} {l : List (List Nat)} (h : Rls D = l.map zs) : D.length = l.length := by rw [← Rls_len, h, List.length_map]
theorem rowsZ {D : List Rw} {l : List (List Nat)} {i : Nat} (h : Rls D = l.map zs) (hi : i < D.length) : (D.getD i dR).L = zs (l.getD i []) := by
  have hl := rowsZ_len h
  rw [Rls_get hi, h, List.getD_eq_getElem?_getD, List.getElem?_map, List.getElem?_eq_getElem (by omega), List.getD_eq_getElem?_getD, List.getElem?_eq_getElem (by omega)]; rfl
theorem rwsZ_get {D : List Rw} {l : List (List Nat)} {i : Nat} (h : Rls D = l.map zs) (hi : i < D.length) : (rws D)[i]? = some (.slice (D.getD i dR).ad (zs (l.getD i [])).length (D.getD i dR).cap) := by
  rw [rws_get hi, ← rowsZ h hi]
/-! ## The list of a matrix -/
def wrI (M : List (List Int)) (p q : List Nat) (i k : Nat) : List Int := (p.length : Int) :: (q.length : Int) :: (((p.take i).flatMap fun r => q.map fun c => en M r c) ++ (q.take k).map fun c => en M (p.getD i 0) c)
theorem wrI_zero (M : List (List Int)) (p q : List Nat) : wrI M p q 0 0 = [(p.length : Int), (q.length : Int)] := rfl
theorem takeN_succ {l : List Nat} {k : Nat} (h : k < l.length) : l.take (k + 1) = l.take k ++ [l.getD k 0] := by
  rw [List.take_add_one, List.getElem?_eq_getElem h, List.getD_eq_getElem?_getD, List.getElem?_eq_getElem h]; rfl
theorem wrI_step {M : List (List Int)} {p q : List Nat} {i k : Nat} (h : k < q.length) : wrI M p q i k ++ [en M (p.getD i 0) (q.getD k 0)] = wrI M p q i (k + 1) := by
  unfold wrI
  rw [takeN_succ h, List.map_append, ← List.append_assoc]; rfl
theorem wrI_row {M : List (List Int)} {p q : List Nat} {i : Nat} (h : i < p.length) : wrI M p q i q.length = wrI M p q (i + 1) 0 := by
  unfold wrI
  rw [takeN_succ h, List.take_length, List.flatMap_append, List.take_zero, List.map_nil, List.append_nil]
  congr 3
  show _ = _ ++ []
  rw [List.append_nil]
theorem wrI_all (M : List (List Int)) (p q : List Nat) : wrI M p q p.length 0 = wr M p q := by
  unfold wrI
  rw [List.take_length, List.take_zero, List.map_nil, List.append_nil]; rfl
theorem wrI_le {M : List (List Int)} {p q : List Nat} {i k : Nat} (hp : p.length ≤ 6) (hq : q.length ≤ 6) : (wrI M p q i k).length ≤ 50 := by
  unfold wrI
  rw [List.length_cons, List.length_cons, List.length_append, List.length_map, List.length_take]
  have h := len_flatMap_le (f := fun r => q.map fun c => en M r c) (c := 6) (l := p.take i) fun r _ => by rw [List.length_map]; exact hq
  rw [List.length_take] at h
  have : min i p.length ≤ 6 := Nat.le_trans (Nat.min_le_right _ _) hp
  have := Nat.mul_le_mul_right 6 this
  omega
theorem wr_le {M : List (List Int)} {p q : List Nat} (hp : p.length ≤ 6) (hq : q.length ≤ 6) : (wr M p q).length ≤ 50 := by rw [← wrI_all]; exact wrI_le hp hq
/-! ## The first difference -/
theorem cmp_at : ∀ {L M : List Int} {i : Nat}, L.length = M.length → i < L.length → (∀ j, j < i → L.getD j 0 = M.getD j 0) → L.getD i 0 ≠ M.getD i 0 → (cmpLL L M < 0 ↔ L.getD i 0 < M.getD i 0)
  | [], _, _, _, h, _, _ => absurd h (Nat.not_lt_zero _)
  | _ :: _, [], _, h, _, _, _ => by cases h
  | a :: L, b :: M, 0, _, _, _, hne => by
    have hne : a ≠ b := hne
    rw [cmpLL]
    show _ ↔ a < b
    by_cases h1 : a < b
    · rw [if_pos h1]; exact ⟨fun _ => h1, fun _ => by decide⟩
    · rw [if_neg h1, if_pos (by omega)]; exact ⟨fun h => absurd h (by decide), fun h => absurd h h1⟩
  | a :: L, b :: M, i + 1, hl, hi, hj, hne => by
    have h0 : a = b := hj 0 (Nat.succ_pos i)
    subst h0
    rw [cmpLL_cons_iff, cmp_at (L := L) (M := M) (i := i) (by simpa using hl) (by simpa using hi) (fun j h => hj (j + 1) (by omega)) hne]; rfl
theorem cmp_same {L M : List Int} (h : L = M) : ¬ cmpLL L M < 0 := by rw [h, cmpLL_self]; decide
end Go.Fw.Cn

/- Chapter 16: where the reference's search for the least list and for maps begins and ends. Plain. -/
namespace Go.Fw.Cn
open Go Go.RowKit Go.Fw
theorem ord_first (n : Nat) : ∀ {k : Nat}, k ≤ n → ∃ L, ordF n k = List.range k :: L
  | 0, _ => ⟨[], rfl⟩
  | k + 1, h => by
    obtain ⟨L, e⟩ := ord_first n (k := k) (by omega)
    have h1 : (List.range n).filter (fun v => decide (v ∉ List.range k)) = k :: ((List.range n).filter fun v => decide (v ∉ List.range k)).tail := by
      obtain ⟨m, hm⟩ : ∃ m, n = k + (m + 1) := ⟨n - k - 1, by omega⟩
      rw [hm, List.range_add, List.filter_append, List.filter_eq_nil_iff.2 (fun v hv => by simpa using hv), List.nil_append, List.range_succ_eq_map, List.map_cons, List.filter_cons_of_pos (by simp)]
      rfl
    rw [ordF, e, List.flatMap_cons]
    unfold ext
    rw [h1, List.map_cons, List.range_succ]
    exact ⟨_, List.cons_append⟩
theorem ord_range (n : Nat) : (ordF n n).getD 0 [] = List.range n := by
  obtain ⟨L, e⟩ := ord_first n (Nat.le_refl n)
  rw [e]; rfl
section
variable {X Y : List (List Int)} {w : Nat}
theorem nTo_le {i k : Nat} (hX : X.length ≤ 6) (hw : w ≤ 6) : nTo X Y w i k ≤ 46656 * 46656 + 46656 := by
  unfold nTo
  have h1 := sum_le (c := 46656) (l := ((ordF X.length X.length).take i).map (nmP X Y w)) fun x hx => by
    obtain ⟨p, _, rfl⟩ := List.mem_map.1 hx
    exact Nat.le_trans (List.length_filter_le _ _) (ordF_le hw (Nat.le_refl w))
  rw [List.length_map, List.length_take] at h1
  have h2 := ordF_le hX (Nat.le_refl X.length)
  have h3 : min i (ordF X.length X.length).length * 46656 ≤ 46656 * 46656 := Nat.mul_le_mul_right _ (Nat.le_trans (Nat.min_le_right _ _) h2)
  have h4 : (((ordF w w).take k).filter fun q => decide (mp X Y w ((ordF X.length X.length).getD i []) q)).length ≤ 46656 := Nat.le_trans (List.length_filter_le _ _) (by rw [List.length_take]; exact Nat.le_trans (Nat.min_le_right _ _) (ordF_le hw (Nat.le_refl w)))
  exact Nat.add_le_add (Nat.le_trans h1 h3) h4
theorem rowsP {D : List Rw} {n i : Nat} (h : Rls D = (ordF n n).map zs) (hi : i < D.length) : Pre n n ((ordF n n).getD i []) := ord_get (by rw [← rowsZ_len h]; exact hi)
end
/-- What the reference finds: the first map, and how many. -/
def mapsR (O R : List Int) (K : List Lk) (O2 R2 : List Int) (K2 : List Lk) (o : Option (List Nat × List Nat)) (n : Nat) : Prop :=
  (¬ (O.length = O2.length ∧ R.length = R2.length) ∧ o = none ∧ n = 0) ∨
  (O.length = O2.length ∧ R.length = R2.length ∧ FM (matG O R K) (matG O2 R2 K2) R.length o ∧ n = nM (matG O R K) (matG O2 R2 K2) R.length ∧ (n = 0 ↔ o = none))
section
variable {O R O2 R2 : List Int} {K K2 : List Lk} {o : Option (List Nat × List Nat)} {n : Nat}
theorem mapS_len {e : Int} (h : MapS O R K O2 R2 K2 o e) : (zs (m1 o)).length ≤ 6 ∧ (zs (m2 o)).length ≤ 6 := by
  by_cases he : e = 0
  · obtain ⟨p, q, rfl, _, _, h1, h2, _, _, _, _, hp, hq, _⟩ := map_some h he
    exact ⟨by rw [zs_length]; show p.length ≤ 6; rw [hp.len]; exact h1, by rw [zs_length]; show q.length ≤ 6; rw [hq.len]; exact h2⟩
  · rw [map_none h he]; exact ⟨by decide, by decide⟩
theorem mapsR_0 (h : mapsR O R K O2 R2 K2 o n) : n = 0 ↔ o = none := by
  rcases h with ⟨_, h1, h2⟩ | ⟨_, _, _, _, h⟩
  · exact ⟨fun _ => h1, fun _ => h2⟩
  · exact h
theorem mapsR_S (v1 : valG O R K) (v2 : valG O2 R2 K2) (b1 : ¬ bigG O R) (b2 : ¬ bigG O2 R2) (h : mapsR O R K O2 R2 K2 o n) : MapS O R K O2 R2 K2 o (mErr o) := by
  rcases h with ⟨h0, h1, h2⟩ | ⟨e1, e2, h1, _, _⟩
  · refine .inr (.inr (.inl ⟨v1, v2, b1, b2, by omega, h1, by rw [h1]; rfl⟩))
  · exact .inr (.inr (.inr ⟨v1, v2, b1, b2, e1, e2, h1, rfl⟩))
theorem mapsR_self (h : mapsR O R K O R K o n) : n = nM (matG O R K) (matG O R K) R.length := by
  rcases h with ⟨h0, _, _⟩ | ⟨_, _, _, h, _⟩
  · exact absurd ⟨rfl, rfl⟩ h0
  · exact h
end
end Go.Fw.Cn

/- Chapter 16: the name of a graph, number by number. Plain. -/
namespace Go.Fw.Cn
open Go Go.RowKit Go.Fw
theorem dgB (k : Nat) : (⟨#[UInt8.ofNat ((48 : Int) + (k : Int)).toNat]⟩ : ByteArray) = bs [UInt8.ofNat (48 + k)] := by
  rw [show ((48 : Int) + (k : Int)).toNat = 48 + k by omega]
theorem dd_one {n : Nat} (h : n < 10) : dd n = [UInt8.ofNat (48 + n % 10)] := by
  rcases dd_cases (n := n) (by omega) with ⟨_, e⟩ | ⟨h2, _⟩
  · rw [e, Nat.mod_eq_of_lt h]
  · omega
theorem dd_two {n : Nat} (h1 : 10 ≤ n) (h : n < 100) : dd n = dd (n / 10) ++ [UInt8.ofNat (48 + n % 10)] := by
  rcases dd_cases h with ⟨h2, _⟩ | ⟨_, e⟩
  · omega
  · rw [e, dd_one (n := n / 10) (by omega), Nat.mod_eq_of_lt (show n / 10 < 10 by omega)]; rfl
def sepT (w j : Nat) : List UInt8 := if 0 < j ∧ j % w = 0 then [47] else []
def txt (w : Nat) (E : List Int) (e : Nat) : List UInt8 := (List.range e).flatMap fun j => sepT w j ++ ent (E.getD j 0)
theorem txt_succ (w : Nat) (E : List Int) (e : Nat) : txt w E (e + 1) = txt w E e ++ sepT w e ++ ent (E.getD e 0) := by
  unfold txt
  rw [List.range_succ, List.flatMap_append, List.append_assoc]
  show _ ++ (_ ++ []) = _
  rw [List.append_nil]
def nmI (h w : Nat) (E : List Int) (e : Nat) : List UInt8 := dd h ++ [120] ++ dd w ++ [58] ++ txt w E e
theorem nmI_zero (h w : Nat) (E : List Int) : nmI h w E 0 = dd h ++ [120] ++ dd w ++ [58] := List.append_nil _
theorem nmI_step (h w : Nat) (E : List Int) (e : Nat) : nmI h w E (e + 1) = nmI h w E e ++ sepT w e ++ ent (E.getD e 0) := by
  unfold nmI; rw [txt_succ, ← List.append_assoc, ← List.append_assoc]
theorem drop_getI {l : List Int} {a c : Nat} : (l.drop a).getD c 0 = l.getD (a + c) 0 := by
  rw [List.getD_eq_getElem?_getD, List.getElem?_drop, List.getD_eq_getElem?_getD]
theorem txt_row {w : Nat} {E : List Int} {r : Nat} (hE : (r + 1) * w ≤ E.length) : ∀ {c : Nat}, c ≤ w → txt w E (r * w + c) = txt w E (r * w) ++ ((if 0 < c ∧ 0 < r then [47] else []) ++ rowT ((E.drop (r * w)).take c))
  | 0, _ => by rw [if_neg (fun h => Nat.lt_irrefl 0 h.1), List.take_zero]; show _ = _ ++ []; rw [List.append_nil]; rfl
  | c + 1, hc => by
    rw [Nat.succ_mul] at hE
    have h1 := row_snoc (L := E.drop (r * w)) (k := c) (by rw [List.length_drop]; omega)
    rw [drop_getI] at h1
    show txt w E ((r * w + c) + 1) = _
    rw [txt_succ, txt_row (c := c) (by rw [Nat.succ_mul]; omega) (by omega), ← h1]
    have h2 : (if 0 < c ∧ 0 < r then [47] else ([] : List UInt8)) ++ rowT ((E.drop (r * w)).take c) ++ sepT w (r * w + c) = (if 0 < c + 1 ∧ 0 < r then [47] else []) ++ rowT ((E.drop (r * w)).take c) := by
      unfold sepT
      by_cases h0 : c = 0
      · subst h0
        rw [if_neg (fun h => Nat.lt_irrefl 0 h.1), List.take_zero, Nat.add_zero, Nat.mul_mod_left]
        show [] ++ [] ++ _ = _ ++ []
        rw [List.append_nil, List.append_nil, List.nil_append]
        by_cases hr : 0 < r
        · rw [if_pos ⟨Nat.mul_pos hr (by omega), rfl⟩, if_pos ⟨by omega, hr⟩]
        · rw [if_neg (fun h => hr (Nat.pos_of_mul_pos_right h.1)), if_neg (fun h => hr h.2)]
      · rw [if_neg (c := 0 < r * w + c ∧ (r * w + c) % w = 0) (fun h => by
          have := h.2
          rw [Nat.mul_comm r w, Nat.mul_add_mod, Nat.mod_eq_of_lt (by omega)] at this
          omega), List.append_nil]
        congr 1
        by_cases hr : 0 < r
        · rw [if_pos ⟨by omega, hr⟩, if_pos ⟨by omega, hr⟩]
        · rw [if_neg (fun h => hr h.2), if_neg (fun h => hr h.2)]
    rw [List.append_assoc (txt w E (r * w)), h2]
    simp only [List.append_assoc]
theorem jn_snoc (s : List UInt8) (x : List UInt8) : ∀ l : List (List UInt8), jn s (l ++ [x]) = if l = [] then x else jn s l ++ (s ++ x)
  | [] => rfl
  | [y] => by rw [if_neg (by simp)]; show y ++ s ++ x = _; rw [List.append_assoc]; rfl
  | y :: z :: l => by
    have ih := jn_snoc s x (z :: l)
    rw [if_neg (by simp)] at ih
    rw [if_neg (by simp)]
    show y ++ s ++ jn s ((z :: l) ++ [x]) = y ++ s ++ jn s (z :: l) ++ (s ++ x)
    rw [ih, List.append_assoc, List.append_assoc, List.append_assoc]
theorem chk_succ (w : Nat) (E : List Int) (r : Nat) : chk w E (r + 1) = chk w E r ++ [(E.drop (r * w)).take w] := by
  unfold chk; rw [List.range_succ, List.map_append]; rfl
theorem txt_rows {w : Nat} {E : List Int} (hw : 0 < w) : ∀ {r : Nat}, r * w ≤ E.length → txt w E (r * w) = jn [47] ((chk w E r).map rowT)
  | 0, _ => by rw [Nat.zero_mul]; rfl
  | r + 1, h => by
    have h1 := txt_row (w := w) (E := E) (r := r) h (c := w) (Nat.le_refl w)
    rw [Nat.succ_mul, h1, chk_succ, List.map_append]
    show _ = jn [47] ((chk w E r).map rowT ++ [rowT ((E.drop (r * w)).take w)])
    rw [jn_snoc, txt_rows hw (r := r) (by rw [Nat.succ_mul] at h; omega)]
    by_cases hr : 0 < r
    · rw [if_pos ⟨hw, hr⟩, if_neg (fun e => by have := congrArg List.length e; rw [List.length_map, chk_len] at this; exact absurd this (by simp; omega))]
    · obtain rfl : r = 0 := by omega
      rw [if_neg (fun h => hr h.2)]
      show _ = if ([] : List (List UInt8)) = [] then _ else _
      rw [if_pos rfl]; rfl
theorem nmI_all {h w : Nat} {E : List Int} (hw : w = 0 → h = 0) (hE : E.length = h * w) : nmI h w E E.length = nameT h w E := by
  unfold nmI nameT
  congr 1
  rw [hE]
  rcases Nat.eq_zero_or_pos w with h0 | h0
  · obtain rfl := hw h0; rw [Nat.zero_mul]; rfl
  · exact txt_rows h0 (Nat.le_of_eq hE.symm)
theorem txt_len {w : Nat} {E : List Int} (hE : okE E) : ∀ {e : Nat}, e ≤ E.length → (txt w E e).length ≤ e * 5
  | 0, _ => by simp [txt]
  | e + 1, h => by
    rw [txt_succ, List.length_append, List.length_append]
    have h1 := txt_len (w := w) hE (e := e) (by omega)
    have h2 : (sepT w e).length ≤ 1 := by unfold sepT; split <;> simp
    have h3 := ent_len (hE _ (getI_mem (show e < E.length by omega)))
    omega
theorem nmI_len {h w : Nat} {E : List Int} {e : Nat} (h1 : h < 100) (h2 : w < 100) (hE : okE E) (he : e ≤ E.length) : (nmI h w E e).length ≤ 6 + e * 5 := by
  unfold nmI
  have a := dd_len h1; have b := dd_len h2; have c := txt_len (w := w) hE he
  simp only [List.length_append, List.length_cons, List.length_nil]; omega
theorem sep3 (w e : Nat) : (e = 0 ∧ sepT w e = []) ∨ (0 < e ∧ e % w = 0 ∧ sepT w e = [47]) ∨ (0 < e ∧ e % w ≠ 0 ∧ sepT w e = []) := by
  unfold sepT
  by_cases h1 : 0 < e
  · by_cases h2 : e % w = 0
    · exact .inr (.inl ⟨h1, h2, if_pos ⟨h1, h2⟩⟩)
    · exact .inr (.inr ⟨h1, h2, if_neg (fun h => h2 h.2)⟩)
  · exact .inl ⟨by omega, if_neg (fun h => h1 h.1)⟩
section
variable {O R : List Int} {K : List Lk} {B B2 : List Int} {T T2 : List UInt8}
theorem codes_len (h : errG O R K = 0 → IsCode (matG O R K) R.length B) (h0 : errG O R K ≠ 0 → B = []) : B.length ≤ 38 := by
  by_cases he : errG O R K = 0
  · obtain ⟨_, a, b⟩ := errG_0.1 he
    have h1 := (h he).len
    rw [matG_len] at h1
    have h2 : O.length * R.length ≤ 6 * 6 := Nat.mul_le_mul a b
    omega
  · rw [h0 he]; exact Nat.zero_le _
theorem codes_eq (h : errG O R K = 0 → IsCode (matG O R K) R.length B) (h0 : errG O R K ≠ 0 → B = []) (h2 : errG O R K = 0 → IsCode (matG O R K) R.length B2) (h3 : errG O R K ≠ 0 → B2 = []) : B = B2 := by
  by_cases he : errG O R K = 0
  · exact (h he).uniq (h2 he)
  · rw [h0 he, h3 he]
theorem names_eq (h : errG O R K = 0 → ∃ B, IsCode (matG O R K) R.length B ∧ T = nameT O.length R.length (B.drop 2)) (h0 : errG O R K ≠ 0 → T = []) (h2 : errG O R K = 0 → ∃ B, IsCode (matG O R K) R.length B ∧ T2 = nameT O.length R.length (B.drop 2)) (h3 : errG O R K ≠ 0 → T2 = []) : T = T2 := by
  by_cases he : errG O R K = 0
  · obtain ⟨B, a, rfl⟩ := h he
    obtain ⟨B', b, rfl⟩ := h2 he
    rw [a.uniq b]
  · rw [h0 he, h3 he]
end
end Go.Fw.Cn
