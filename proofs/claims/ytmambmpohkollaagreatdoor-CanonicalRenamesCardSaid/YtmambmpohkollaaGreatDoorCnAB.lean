/- Chapter 16: lists of numbers compared lexicographically; a matrix written row by row is least if its columns are sorted. Plain. -/
import Derived.Test.YtmambmpohkollaaGreatDoorFwC
namespace Go.Fw.Cn
open Go Go.RowKit Go.Fw
def cmpLL : List Int → List Int → Int
  | [], [] => 0
  | [], _ :: _ => -1
  | _ :: _, [] => 1
  | a :: l, b :: m => if a < b then -1 else if b < a then 1 else cmpLL l m
theorem cmpLL_self : ∀ l, cmpLL l l = 0
  | [] => rfl
  | a :: l => by rw [cmpLL, if_neg (Int.lt_irrefl a), if_neg (Int.lt_irrefl a)]; exact cmpLL_self l
theorem cmpLL_eq : ∀ {l m}, cmpLL l m = 0 → l = m
  | [], [], _ => rfl
  | [], _ :: _, h => by simp [cmpLL] at h
  | _ :: _, [], h => by simp [cmpLL] at h
  | a :: l, b :: m, h => by
    rw [cmpLL] at h
    by_cases h1 : a < b
    · rw [if_pos h1] at h; omega
    rw [if_neg h1] at h
    by_cases h2 : b < a
    · rw [if_pos h2] at h; omega
    rw [if_neg h2] at h
    rw [show a = b by omega, cmpLL_eq h]
theorem cmpLL_neg : ∀ l m, cmpLL m l = -cmpLL l m
  | [], [] => rfl
  | [], _ :: _ => rfl
  | _ :: _, [] => rfl
  | a :: l, b :: m => by
    rw [cmpLL, cmpLL]
    by_cases h1 : a < b
    · rw [if_pos h1, if_neg (by omega), if_pos h1]; rfl
    by_cases h2 : b < a
    · rw [if_pos h2, if_neg h1, if_pos h2]
    · rw [if_neg h1, if_neg h2, if_neg h2, if_neg h1]; exact cmpLL_neg l m
theorem cmpLL_val : ∀ l m, cmpLL l m = -1 ∨ cmpLL l m = 0 ∨ cmpLL l m = 1
  | [], [] => .inr (.inl rfl)
  | [], _ :: _ => .inl rfl
  | _ :: _, [] => .inr (.inr rfl)
  | a :: l, b :: m => by
    rw [cmpLL]
    by_cases h1 : a < b
    · rw [if_pos h1]; exact .inl rfl
    by_cases h2 : b < a
    · rw [if_neg h1, if_pos h2]; exact .inr (.inr rfl)
    · rw [if_neg h1, if_neg h2]; exact cmpLL_val l m
/-- A list does not stand behind another one. -/
def leL (l m : List Int) : Prop := cmpLL l m ≤ 0
instance (l m : List Int) : Decidable (leL l m) := inferInstanceAs (Decidable (_ ≤ _))
theorem leL.rfl {l : List Int} : leL l l := by unfold leL; rw [cmpLL_self]; decide
theorem leL.total (l m : List Int) : leL l m ∨ leL m l := by unfold leL; rw [cmpLL_neg l m]; omega
theorem leL.anti {l m : List Int} (h : leL l m) (h' : leL m l) : l = m := by
  unfold leL at h h'; rw [cmpLL_neg l m] at h'; exact cmpLL_eq (by omega)
theorem leL.trans : ∀ {l m k : List Int}, leL l m → leL m k → leL l k
  | [], m, [], _, _ => by decide
  | [], m, _ :: _, _, _ => by unfold leL; rw [cmpLL]; decide
  | _ :: _, [], _, h, _ => by unfold leL at h; simp [cmpLL] at h
  | _ :: _, _ :: _, [], _, h => by unfold leL at h; simp [cmpLL] at h
  | a :: l, b :: m, c :: k, h, h' => by
    unfold leL at h h' ⊢
    rw [cmpLL] at h h' ⊢
    by_cases h1 : a < b
    · by_cases h3 : b < c
      · rw [if_pos (by omega)]; decide
      · rw [if_neg h3] at h'
        by_cases h4 : c < b
        · rw [if_pos h4] at h'; omega
        · rw [if_pos (by omega)]; decide
    rw [if_neg h1] at h
    by_cases h2 : b < a
    · rw [if_pos h2] at h; omega
    rw [if_neg h2] at h
    obtain rfl : a = b := by omega
    by_cases h3 : a < c
    · rw [if_pos h3]; decide
    rw [if_neg h3] at h' ⊢
    by_cases h4 : c < a
    · rw [if_pos h4] at h'; omega
    rw [if_neg h4] at h' ⊢
    exact leL.trans (l := l) (m := m) (k := k) h h'
theorem cmpLL_app : ∀ {a a' : List Int} (b b' : List Int), a.length = a'.length → cmpLL (a ++ b) (a' ++ b') = if cmpLL a a' = 0 then cmpLL b b' else cmpLL a a'
  | [], [], b, b', _ => by rw [if_pos (by rfl)]; rfl
  | x :: a, y :: a', b, b', h => by
    have ih := cmpLL_app (a := a) (a' := a') b b' (by simpa using h)
    show cmpLL (x :: (a ++ b)) (y :: (a' ++ b')) = _
    rw [cmpLL, cmpLL]
    by_cases h1 : x < y
    · rw [if_pos h1, if_pos h1, if_neg (by decide)]
    by_cases h2 : y < x
    · rw [if_neg h1, if_pos h2, if_neg h1, if_pos h2, if_neg (by decide)]
    · rw [if_neg h1, if_neg h2, if_neg h1, if_neg h2]; exact ih
theorem cmpLL_cons_iff {x : Int} {a a' : List Int} : cmpLL (x :: a) (x :: a') = cmpLL a a' := by rw [cmpLL, if_neg (Int.lt_irrefl x), if_neg (Int.lt_irrefl x)]
theorem leL_app {a a' b b' : List Int} (hl : a.length = a'.length) : leL (a ++ b) (a' ++ b') ↔ (cmpLL a a' < 0 ∨ (a = a' ∧ leL b b')) := by
  unfold leL
  rw [cmpLL_app b b' hl]
  by_cases h : cmpLL a a' = 0
  · rw [if_pos h]
    exact ⟨fun h2 => .inr ⟨cmpLL_eq h, h2⟩, fun h2 => h2.elim (fun h3 => by omega) (·.2)⟩
  · rw [if_neg h]
    exact ⟨fun h2 => .inl (by omega), fun h2 => h2.elim (fun h3 => by omega) fun h3 => absurd (by rw [h3.1, cmpLL_self]) h⟩
/-! ## Row by row -/
def hd (D : List (List Int)) : List Int := D.map fun c => c.headD 0
def tl (D : List (List Int)) : List (List Int) := D.map List.tail
def fl : Nat → List (List Int) → List Int
  | 0, _ => []
  | h + 1, D => hd D ++ fl h (tl D)
theorem hd_len (D : List (List Int)) : (hd D).length = D.length := by unfold hd; rw [List.length_map]
theorem tl_len (D : List (List Int)) : (tl D).length = D.length := by unfold tl; rw [List.length_map]
theorem fl_cons : ∀ (h : Nat) (y : List Int) {A B : List (List Int)}, A.length = B.length → leL (fl h A) (fl h B) → leL (fl h (y :: A)) (fl h (y :: B))
  | 0, _, _, _, _, _ => leL.rfl
  | h + 1, y, A, B, hl, hle => by
    rw [fl, fl, leL_app (by rw [hd_len, hd_len, hl])] at hle
    rw [fl, fl, leL_app (by rw [hd_len, hd_len, List.length_cons, List.length_cons, hl])]
    show cmpLL (_ :: hd A) (_ :: hd B) < 0 ∨ _
    rw [cmpLL_cons_iff]
    refine hle.imp id fun h2 => ⟨?_, ?_⟩
    · show _ :: hd A = _ :: hd B; rw [h2.1]
    · exact fl_cons h y.tail (by show (tl A).length = (tl B).length; rw [tl_len, tl_len, hl]) h2.2
theorem fl_swap : ∀ (h : Nat) {x y : List Int} (T : List (List Int)), x.length = h → y.length = h → leL y x → leL (fl h (y :: x :: T)) (fl h (x :: y :: T))
  | 0, _, _, _, _, _, _ => leL.rfl
  | h + 1, a :: x, b :: y, T, hx, hy, hle => by
    rw [fl, fl, leL_app (by rw [hd_len, hd_len]; rfl)]
    show cmpLL (b :: a :: hd T) (a :: b :: hd T) < 0 ∨ _
    unfold leL at hle
    rw [cmpLL] at hle
    by_cases h1 : b < a
    · left; rw [cmpLL, if_pos h1]; decide
    rw [if_neg h1] at hle
    by_cases h2 : a < b
    · rw [if_pos h2] at hle; omega
    rw [if_neg h2] at hle
    obtain rfl : a = b := by omega
    exact .inr ⟨rfl, fl_swap h (tl T) (by simpa using hx) (by simpa using hy) hle⟩
/-! ## Columns in their order -/
def insL (x : List Int) : List (List Int) → List (List Int)
  | [] => [x]
  | y :: l => if leL x y then x :: y :: l else y :: insL x l
def srtL : List (List Int) → List (List Int)
  | [] => []
  | x :: l => insL x (srtL l)
theorem insL_perm (x : List Int) : ∀ l, (insL x l).Perm (x :: l)
  | [] => List.Perm.refl _
  | y :: l => by
    rw [insL]
    split
    · exact List.Perm.refl _
    · exact ((insL_perm x l).cons y).trans (List.Perm.swap x y l)
theorem srtL_perm : ∀ l, (srtL l).Perm l
  | [] => List.Perm.refl _
  | x :: l => (insL_perm x _).trans ((srtL_perm l).cons x)
theorem insL_len (x : List Int) (l : List (List Int)) : (insL x l).length = l.length + 1 := (insL_perm x l).length_eq
theorem srtL_len (l : List (List Int)) : (srtL l).length = l.length := (srtL_perm l).length_eq
theorem insL_sorted {x : List Int} : ∀ {l}, l.Pairwise leL → (insL x l).Pairwise leL
  | [], _ => by rw [insL]; exact List.pairwise_singleton _ _
  | y :: l, h => by
    rw [insL]
    split
    · rename_i hxy
      exact List.Pairwise.cons (fun z hz => (List.mem_cons.1 hz).elim (fun e => e ▸ hxy) fun hz => hxy.trans ((List.pairwise_cons.1 h).1 z hz)) h
    · rename_i hxy
      refine List.Pairwise.cons (fun z hz => ?_) (insL_sorted (List.pairwise_cons.1 h).2)
      rcases List.mem_cons.1 ((insL_perm x l).mem_iff.1 hz) with rfl | hz
      · exact (leL.total z y).resolve_left hxy
      · exact (List.pairwise_cons.1 h).1 z hz
theorem srtL_sorted : ∀ l, (srtL l).Pairwise leL
  | [] => List.Pairwise.nil
  | _ :: l => insL_sorted (srtL_sorted l)
theorem sorted_unique : ∀ {l m : List (List Int)}, l.Pairwise leL → m.Pairwise leL → l.Perm m → l = m
  | [], m, _, _, hp => by rw [hp.nil_eq]
  | a :: l, [], _, _, hp => absurd hp.length_eq (by simp)
  | a :: l, b :: m, hl, hm, hp => by
    have e : a = b := by
      have ha : a ∈ b :: m := hp.mem_iff.1 List.mem_cons_self
      have hb : b ∈ a :: l := hp.mem_iff.2 List.mem_cons_self
      rcases List.mem_cons.1 ha with e | ha
      · exact e
      rcases List.mem_cons.1 hb with e | hb
      · exact e.symm
      exact ((List.pairwise_cons.1 hl).1 b hb).anti ((List.pairwise_cons.1 hm).1 a ha)
    subst e
    rw [sorted_unique (List.pairwise_cons.1 hl).2 (List.pairwise_cons.1 hm).2 (List.Perm.cons_inv hp)]
theorem srtL_eq {l m : List (List Int)} (hp : l.Perm m) (hm : m.Pairwise leL) : srtL l = m := sorted_unique (srtL_sorted l) hm ((srtL_perm l).trans hp)
theorem srtL_cong {l m : List (List Int)} (hp : l.Perm m) : srtL l = srtL m := srtL_eq (hp.trans (srtL_perm m).symm) (srtL_sorted m)
theorem fl_ins (h : Nat) {x : List Int} (hx : x.length = h) : ∀ {l : List (List Int)}, (∀ c ∈ l, c.length = h) → leL (fl h (insL x l)) (fl h (x :: l))
  | [], _ => leL.rfl
  | y :: l, hl => by
    rw [insL]
    split
    · exact leL.rfl
    · rename_i hxy
      have hyx := (leL.total x y).resolve_left hxy
      exact (fl_cons h y (insL_len x l) (fl_ins h hx fun c hc => hl c (List.mem_cons_of_mem _ hc))).trans (fl_swap h l hx (hl y List.mem_cons_self) hyx)
theorem fl_srt (h : Nat) : ∀ {l : List (List Int)}, (∀ c ∈ l, c.length = h) → leL (fl h (srtL l)) (fl h l)
  | [], _ => leL.rfl
  | x :: l, hl => by
    have ih := fl_srt h (l := l) fun c hc => hl c (List.mem_cons_of_mem _ hc)
    exact (fl_ins h (hl x List.mem_cons_self) fun c hc => hl c (List.mem_cons_of_mem _ ((srtL_perm l).mem_iff.1 hc))).trans (fl_cons h x (srtL_len l) ih)
/-- Of all orders of the columns the sorted one is written least. -/
theorem fl_least {h : Nat} {C D : List (List Int)} (hp : D.Perm C) (hC : ∀ c ∈ C, c.length = h) : leL (fl h (srtL C)) (fl h D) :=
  srtL_cong hp ▸ fl_srt h fun c hc => hC c (hp.mem_iff.1 hc)
end Go.Fw.Cn

/- Chapter 16: orders of columns that lead one list of columns to another one: how many, and the first one. Plain. -/
namespace Go.Fw.Cn
open Go Go.RowKit Go.Fw
/-- All lists of different numbers below n, of a length, in lexicographic order. -/
def ext (n : Nat) (p : List Nat) : List (List Nat) := ((List.range n).filter fun v => decide (v ∉ p)).map fun v => p ++ [v]
def ordF (n : Nat) : Nat → List (List Nat)
  | 0 => [[]]
  | k + 1 => (ordF n k).flatMap (ext n)
/-- An order so far: as many different numbers below n. -/
structure Pre (n k : Nat) (p : List Nat) : Prop where
  len : p.length = k
  nd : p.Nodup
  lt : ∀ v ∈ p, v < n
theorem mem_ext {n : Nat} {p q : List Nat} : q ∈ ext n p ↔ ∃ v, v < n ∧ v ∉ p ∧ q = p ++ [v] := by
  unfold ext
  simp only [List.mem_map, List.mem_filter, List.mem_range, decide_eq_true_eq]
  exact ⟨fun ⟨v, ⟨h1, h2⟩, h3⟩ => ⟨v, h1, h2, h3.symm⟩, fun ⟨v, h1, h2, h3⟩ => ⟨v, ⟨h1, h2⟩, h3.symm⟩⟩
theorem Pre.nil (n : Nat) : Pre n 0 [] := ⟨rfl, List.nodup_nil, fun _ h => by cases h⟩
theorem Pre.snoc {n k v : Nat} {p : List Nat} (h : Pre n k p) (hv : v < n) (hp : v ∉ p) : Pre n (k + 1) (p ++ [v]) :=
  ⟨by rw [List.length_append, h.len]; rfl, List.nodup_append.2 ⟨h.nd, List.nodup_cons.2 ⟨by simp, List.nodup_nil⟩, fun a ha b hb e => by rw [List.mem_singleton.1 hb] at e; exact hp (e ▸ ha)⟩,
    fun x hx => (List.mem_append.1 hx).elim (h.lt x) fun hx => by rw [List.mem_singleton.1 hx]; exact hv⟩
theorem Pre.init {n k v : Nat} {p : List Nat} (h : Pre n (k + 1) (p ++ [v])) : Pre n k p ∧ v < n ∧ v ∉ p :=
  ⟨⟨by have := h.len; rw [List.length_append] at this; simpa using this, (List.nodup_append.1 h.nd).1, fun x hx => h.lt x (List.mem_append_left _ hx)⟩, h.lt v (List.mem_append_right _ List.mem_cons_self), fun hv => (List.nodup_append.1 h.nd).2.2 v hv v List.mem_cons_self rfl⟩
theorem mem_ordF {n : Nat} : ∀ {k : Nat} {p : List Nat}, p ∈ ordF n k ↔ Pre n k p
  | 0, p => by
    rw [ordF, List.mem_singleton]
    exact ⟨fun e => e ▸ Pre.nil n, fun h => List.length_eq_zero_iff.1 h.len⟩
  | k + 1, p => by
    rw [ordF, List.mem_flatMap]
    constructor
    · rintro ⟨q, hq, he⟩
      obtain ⟨v, h1, h2, rfl⟩ := mem_ext.1 he
      exact (mem_ordF.1 hq).snoc h1 h2
    · intro h
      rcases List.eq_nil_or_concat p with rfl | ⟨q, v, rfl⟩
      · exact absurd h.len (by simp)
      · rw [List.concat_eq_append] at h ⊢
        obtain ⟨h1, h2, h3⟩ := h.init
        exact ⟨q, mem_ordF.2 h1, mem_ext.2 ⟨v, h2, h3, rfl⟩⟩
theorem sub_len {l m : List Nat} (nd : l.Nodup) (hs : ∀ x ∈ l, x ∈ m) : l.length ≤ m.length := by
  induction l generalizing m with
  | nil => exact Nat.zero_le _
  | cons a l ih =>
    obtain ⟨h1, h2⟩ := List.nodup_cons.1 nd
    have ha := hs a List.mem_cons_self
    have := ih (m := m.erase a) h2 fun x hx => (List.mem_erase_of_ne fun e : x = a => h1 (e ▸ hx)).2 (hs x (List.mem_cons_of_mem _ hx))
    rw [List.length_erase_of_mem ha] at this
    have := List.length_pos_of_mem ha
    rw [List.length_cons]; omega
theorem Pre.perm {n : Nat} {p : List Nat} (h : Pre n n p) : p.Perm (List.range n) := by
  refine (List.perm_ext_iff_of_nodup h.nd List.nodup_range).2 fun a => ?_
  rw [List.mem_range]
  refine ⟨h.lt a, fun ha => Classical.byContradiction fun hn => ?_⟩
  have := sub_len (l := a :: p) (m := List.range n) (List.nodup_cons.2 ⟨hn, h.nd⟩) fun y hy => by
    rw [List.mem_range]
    rcases List.mem_cons.1 hy with rfl | hy
    · exact ha
    · exact h.lt y hy
  rw [List.length_cons, List.length_range, h.len] at this
  omega
/-- The orders depth first, behind a beginning. -/
def dfs (n : Nat) : Nat → List Nat → List (List Nat)
  | 0, p => [p]
  | f + 1, p => (ext n p).flatMap (dfs n f)
theorem dfs_ordF (n : Nat) : ∀ f k, (ordF n k).flatMap (dfs n f) = ordF n (k + f)
  | 0, k => by
    show (ordF n k).flatMap (fun p => [p]) = _
    rw [List.flatMap_singleton']; rfl
  | f + 1, k => by
    show (ordF n k).flatMap (fun p => (ext n p).flatMap (dfs n f)) = _
    rw [← List.flatMap_assoc, show (ordF n k).flatMap (fun x => ext n x) = ordF n (k + 1) from rfl, dfs_ordF n f (k + 1), show k + 1 + f = k + (f + 1) by omega]
theorem dfs_all (n : Nat) : dfs n n [] = ordF n n := by
  have h := dfs_ordF n n 0
  rw [Nat.zero_add] at h
  rw [← h]
  show _ = [[]].flatMap _
  simp
/-! ## Orders that lead to a list -/
section
variable (C own : List (List Int)) (n : Nat)
def gv (p : List Nat) (v : Nat) : Bool := decide (v ∉ p) && decide (C.getD v [] = own.getD p.length [])
def gx (p : List Nat) : List Nat := (List.range n).filter (gv C own p)
def G : Nat → List (List Nat)
  | 0 => [[]]
  | k + 1 => (G k).flatMap fun p => (gx C own n p).map fun v => p ++ [v]
def good (p : List Nat) : Prop := p.map (fun v => C.getD v []) = own.take p.length
instance (p : List Nat) : Decidable (good C own p) := inferInstanceAs (Decidable (_ = _))
end
section
variable {C own : List (List Int)} {n : Nat}
theorem take_succ_getD {l : List (List Int)} {k : Nat} (h : k < l.length) : l.take (k + 1) = l.take k ++ [l.getD k []] := by
  rw [List.take_add_one, List.getElem?_eq_getElem h, List.getD_eq_getElem?_getD, List.getElem?_eq_getElem h]; rfl
theorem good_snoc {p : List Nat} {v : Nat} (hk : p.length < own.length) : good C own (p ++ [v]) ↔ good C own p ∧ C.getD v [] = own.getD p.length [] := by
  unfold good
  rw [List.map_append, List.length_append, List.length_singleton, take_succ_getD hk]
  exact ⟨fun h => ⟨(List.append_inj h (by rw [List.length_map, List.length_take]; omega)).1, List.singleton_inj.1 (List.append_inj h (by rw [List.length_map, List.length_take]; omega)).2⟩, fun h => by rw [h.1, ← h.2]; rfl⟩
theorem flatMap_filter' {α β : Type} {p : α → Bool} {f : α → List β} : ∀ {l : List α}, (l.filter p).flatMap f = l.flatMap fun a => if p a = true then f a else []
  | [] => rfl
  | a :: l => by
    rw [List.filter_cons, List.flatMap_cons, ← flatMap_filter']
    split <;> simp [*]
theorem flatMap_congr' {α β : Type} {f g : α → List β} : ∀ {l : List α}, (∀ a ∈ l, f a = g a) → l.flatMap f = l.flatMap g
  | [], _ => rfl
  | a :: l, h => by rw [List.flatMap_cons, List.flatMap_cons, h a List.mem_cons_self, flatMap_congr' fun b hb => h b (List.mem_cons_of_mem _ hb)]
theorem G_eq : ∀ {k}, k ≤ own.length → G C own n k = (ordF n k).filter fun p => decide (good C own p)
  | 0, _ => by rw [G, ordF]; simp [good]
  | k + 1, hk => by
    rw [G, ordF, List.filter_flatMap, G_eq (by omega), flatMap_filter']
    refine flatMap_congr' fun p hp => ?_
    have hl := (mem_ordF.1 hp).len
    by_cases hg : good C own p
    · rw [if_pos (decide_eq_true hg)]
      unfold ext gx
      rw [List.filter_map, List.filter_filter]
      congr 1
      refine List.filter_congr fun v _ => ?_
      show gv C own p v = (decide (good C own (p ++ [v])) && decide (v ∉ p))
      unfold gv
      rw [Bool.and_comm, decide_eq_decide.2 ((good_snoc (C := C) (own := own) (p := p) (v := v) (by omega)).trans (and_iff_right hg))]
    · rw [if_neg (by simpa using hg)]
      refine (List.filter_eq_nil_iff.2 fun q hq => ?_).symm
      obtain ⟨v, _, _, rfl⟩ := mem_ext.1 hq
      rw [decide_eq_true_eq, good_snoc (by omega)]
      exact fun h => hg h.1
theorem mem_G {k : Nat} (hk : k ≤ own.length) {p : List Nat} : p ∈ G C own n k ↔ Pre n k p ∧ good C own p := by
  rw [G_eq hk, List.mem_filter, mem_ordF, decide_eq_true_eq]
theorem map_getD_range : ∀ (C : List (List Int)), (List.range C.length).map (fun v => C.getD v []) = C := fun C => by
  refine List.ext_getElem (by rw [List.length_map, List.length_range]) fun i h1 h2 => ?_
  rw [List.getElem_map, List.getElem_range, List.getD_eq_getElem?_getD, List.getElem?_eq_getElem h2]; rfl
theorem gx_len (hC : C.length = n) {k : Nat} (_hk : k < own.length) {p : List Nat} (hp : Pre n k p) (hg : good C own p) : (gx C own n p).length + (own.take k).count (own.getD k []) = C.count (own.getD k []) := by
  have hlen := hp.len
  have h1 : C.count (own.getD k []) = (List.range n).countP fun v => C.getD v [] == own.getD k [] := by
    rw [← hC]
    have := congrArg (List.count (own.getD k [])) (map_getD_range C)
    rw [← this, List.count, List.countP_map]; rfl
  have h2 : (own.take k).count (own.getD k []) = p.countP fun v => C.getD v [] == own.getD k [] := by
    unfold good at hg
    rw [hlen] at hg
    rw [← hg, List.count, List.countP_map]; rfl
  have h3 : ((List.range n).filter fun v => decide (v ∈ p)).Perm p := by
    refine (List.perm_ext_iff_of_nodup (List.nodup_range.filter _) hp.nd).2 fun v => ?_
    rw [List.mem_filter, List.mem_range, decide_eq_true_eq]
    exact ⟨fun h => h.2, fun h => ⟨hp.lt v h, h⟩⟩
  have h4 := List.countP_eq_countP_filter_add (List.range n) (fun v => C.getD v [] == own.getD k []) (fun v => decide (v ∈ p))
  rw [h3.countP_eq] at h4
  rw [h1, h2, h4, Nat.add_comm]
  congr 1
  unfold gx
  rw [← List.countP_eq_length_filter, List.countP_filter]
  refine List.countP_congr fun v _ => ?_
  unfold gv
  rw [hlen]
  simp [and_comm]
theorem len_flatMap {α β : Type} {f : α → List β} {c : Nat} : ∀ {l : List α}, (∀ a ∈ l, (f a).length = c) → (l.flatMap f).length = l.length * c
  | [], _ => by simp
  | a :: l, h => by
    rw [List.flatMap_cons, List.length_append, h a List.mem_cons_self, len_flatMap fun b hb => h b (List.mem_cons_of_mem _ hb), List.length_cons, Nat.succ_mul, Nat.add_comm]
theorem G_len (hC : C.length = n) {k : Nat} (hk : k < own.length) : (G C own n (k + 1)).length = (G C own n k).length * (C.count (own.getD k []) - (own.take k).count (own.getD k [])) := by
  rw [G]
  refine len_flatMap fun p hp => ?_
  obtain ⟨h1, h2⟩ := (mem_G (by omega)).1 hp
  have := gx_len hC hk h1 h2
  rw [List.length_map]; omega
/-- The first index that goes on. -/
theorem gx_first {p : List Nat} {v : Nat} (hv : v < n) (h : gv C own p v = true) (hb : ∀ u, u < v → gv C own p u = false) : (gx C own n p).head? = some v := by
  unfold gx
  rw [List.head?_filter, show n = v + (n - v) by omega, List.range_add, List.find?_append, List.find?_eq_none.2 (fun u hu => by rw [hb u (List.mem_range.1 hu)]; exact Bool.false_ne_true), Option.none_or]
  obtain ⟨m, hm⟩ : ∃ m, n - v = m + 1 := ⟨n - v - 1, by omega⟩
  rw [hm, List.range_succ_eq_map, List.map_cons, List.find?_cons_of_pos (by rw [Nat.add_zero]; exact h)]
  rfl
theorem gx_none {p : List Nat} (hb : ∀ u, u < n → gv C own p u = false) : gx C own n p = [] :=
  List.filter_eq_nil_iff.2 fun u hu => by rw [hb u (List.mem_range.1 hu)]; exact Bool.false_ne_true
/-- What the program finds, place by place. -/
def mt (C own : List (List Int)) (n : Nat) : Nat → Option (List Nat)
  | 0 => some []
  | k + 1 => (mt C own n k).bind fun p => (gx C own n p).head?.map fun v => p ++ [v]
theorem head_flatMap {α β : Type} {f : α → List β} : ∀ {l : List α}, (∀ a ∈ l, ∀ b ∈ l, (f a).length = (f b).length) → (l.flatMap f).head? = l.head?.bind fun a => (f a).head?
  | [], _ => rfl
  | a :: l, h => by
    rw [List.flatMap_cons, List.head?_cons, List.head?_append]
    cases hf : f a with
    | cons x y => simp [hf]
    | nil =>
      have : l.flatMap f = [] := by
        rw [List.flatMap_eq_nil_iff]
        intro b hb
        have := h b (List.mem_cons_of_mem _ hb) a List.mem_cons_self
        rw [hf] at this
        exact List.length_eq_zero_iff.1 this
      rw [this]; simp [hf]
theorem mt_head (hC : C.length = n) : ∀ {k}, k ≤ own.length → mt C own n k = (G C own n k).head?
  | 0, _ => rfl
  | k + 1, hk => by
    rw [mt, mt_head hC (by omega), G, head_flatMap]
    · congr 1; funext p; rw [List.head?_map]
    · intro a ha b hb
      obtain ⟨h1, h2⟩ := (mem_G (by omega)).1 ha
      obtain ⟨h3, h4⟩ := (mem_G (by omega)).1 hb
      have := gx_len hC (by omega) h1 h2
      have := gx_len hC (by omega) h3 h4
      rw [List.length_map, List.length_map]; omega
/-! ## How many -/
def PB : List (List Int) → Nat
  | [] => 1
  | x :: l => (1 + l.count x) * PB l
theorem PB_perm {l m : List (List Int)} (h : l.Perm m) : PB l = PB m := by
  induction h with
  | nil => rfl
  | cons x h ih => rw [PB, PB, ih, h.count_eq]
  | swap x y l =>
    rw [PB, PB, PB, PB, List.count_cons, List.count_cons]
    by_cases e : x = y
    · subst e; rfl
    · rw [if_neg (by simpa using e), if_neg (by simpa using fun h : y = x => e h.symm)]
      rw [Nat.add_zero, Nat.add_zero, ← Nat.mul_assoc, ← Nat.mul_assoc, Nat.mul_comm (1 + l.count y)]
  | trans _ _ h1 h2 => exact h1.trans h2
/-- The product of the program: how many equal ones stand before, and one. -/
def facA (l : List (List Int)) : Nat → Nat
  | 0 => 1
  | i + 1 => facA l i * (1 + (l.take i).count (l.getD i []))
theorem facA_PB (l : List (List Int)) : ∀ {i}, i ≤ l.length → facA l i = PB (l.take i)
  | 0, _ => by rw [List.take_zero]; rfl
  | i + 1, h => by
    rw [facA, facA_PB l (by omega), take_succ_getD (by omega), PB_perm (List.perm_append_singleton _ _), PB, Nat.mul_comm]
theorem G_PB (hC : C.length = n) (hp : C.Perm own) : ∀ {k}, k ≤ own.length → (G C own n k).length * PB (own.drop k) = PB own
  | 0, _ => by rw [List.drop_zero]; show 1 * _ = _; rw [Nat.one_mul]
  | k + 1, h => by
    have hd : own.drop k = own.getD k [] :: own.drop (k + 1) := by
      rw [List.drop_eq_getElem_cons (show k < own.length by omega), List.getD_eq_getElem?_getD, List.getElem?_eq_getElem (show k < own.length by omega)]; rfl
    have hs : own.count (own.getD k []) = (own.take k).count (own.getD k []) + (own.drop k).count (own.getD k []) := by
      rw [← List.count_append, List.take_append_drop]
    rw [hd, List.count_cons_self] at hs
    rw [← G_PB hC hp (k := k) (by omega), G_len hC (by omega), hp.count_eq, hd, PB, Nat.mul_assoc]
    congr 2
    omega
theorem G_all (hC : C.length = n) (hp : C.Perm own) : (G C own n own.length).length = facA own own.length := by
  have h := G_PB hC hp (Nat.le_refl _)
  rw [List.drop_length] at h
  rw [facA_PB own (Nat.le_refl _), List.take_length, ← h]
  show _ = _ * 1
  rw [Nat.mul_one]
theorem G_perm (hC : C.length = n) (hn : own.length = n) {p : List Nat} (h : p ∈ G C own n own.length) : C.Perm own := by
  obtain ⟨h1, h2⟩ := (mem_G (Nat.le_refl _)).1 h
  unfold good at h2
  rw [h1.len, List.take_length] at h2
  rw [hn] at h1
  have h3 := map_getD_range C
  rw [hC] at h3
  exact (List.Perm.of_eq h3.symm).trans ((h1.perm.map fun v => C.getD v []).symm.trans (List.Perm.of_eq h2))
end
end Go.Fw.Cn
