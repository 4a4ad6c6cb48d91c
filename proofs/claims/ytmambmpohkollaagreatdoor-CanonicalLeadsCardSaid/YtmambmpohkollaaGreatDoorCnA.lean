/- Chapter 16: lists of numbers compared lexicographically; a matrix written row by row is least if its columns are sorted. Plain. -/
import Derived.Test.YtmambmpohkollaaGreatDoorFwC
namespace Go.Fw.Cn
open Go Go.RowKit Go.Fw
def cmpLL : List Int → List Int → Int
  | [], [] => 0
  | [], _ :: _ => -1
  | _ :: _, [] => 1
  | a :: l, b :: m => if a < b then -1 else if b < a then 1 else cmpLL l m
theorem cmpLL_self : ∀ l, cmpLL l l = 0
  | [] => rfl
  | a :: l => by rw [cmpLL, if_neg (Int.lt_irrefl a), if_neg (Int.lt_irrefl a)]; exact cmpLL_self l
theorem cmpLL_eq : ∀ {l m}, cmpLL l m = 0 → l = m
  | [], [], _ => rfl
  | [], _ :: _, h => by simp [cmpLL] at h
  | _ :: _, [], h => by simp [cmpLL] at h
  | a :: l, b :: m, h => by
    rw [cmpLL] at h
    by_cases h1 : a < b
    · rw [if_pos h1] at h; omega
    rw [if_neg h1] at h
    by_cases h2 : b < a
    · rw [if_pos h2] at h; omega
    rw [if_neg h2] at h
    rw [show a = b by omega, cmpLL_eq h]
theorem cmpLL_neg : ∀ l m, cmpLL m l = -cmpLL l m
  | [], [] => rfl
  | [], _ :: _ => rfl
  | _ :: _, [] => rfl
  | a :: l, b :: m => by
    rw [cmpLL, cmpLL]
    by_cases h1 : a < b
    · rw [if_pos h1, if_neg (by omega), if_pos h1]; rfl
    by_cases h2 : b < a
    · rw [if_pos h2, if_neg h1, if_pos h2]
    · rw [if_neg h1, if_neg h2, if_neg h2, if_neg h1]; exact cmpLL_neg l m
theorem cmpLL_val : ∀ l m, cmpLL l m = -1 ∨ cmpLL l m = 0 ∨ cmpLL l m = 1
  | [], [] => .inr (.inl rfl)
  | [], _ :: _ => .inl rfl
  | _ :: _, [] => .inr (.inr rfl)
  | a :: l, b :: m => by
    rw [cmpLL]
    by_cases h1 : a < b
    · rw [if_pos h1]; exact .inl rfl
    by_cases h2 : b < a
    · rw [if_neg h1, if_pos h2]; exact .inr (.inr rfl)
    · rw [if_neg h1, if_neg h2]; exact cmpLL_val l m
/-- A list does not stand behind another one. -/
def leL (l m : List Int) : Prop := cmpLL l m ≤ 0
instance (l m : List Int) : Decidable (leL l m) := inferInstanceAs (Decidable (_ ≤ _))
theorem leL.rfl {l : List Int} : leL l l := by unfold leL; rw [cmpLL_self]; decide
theorem leL.total (l m : List Int) : leL l m ∨ leL m l := by unfold leL; rw [cmpLL_neg l m]; omega
theorem leL.anti {l m : List Int} (h : leL l m) (h' : leL m l) : l = m := by
  unfold leL at h h'; rw [cmpLL_neg l m] at h'; exact cmpLL_eq (by omega)
theorem leL.trans : ∀ {l m k : List Int}, leL l m → leL m k → leL l k
  | [], m, [], _, _ => by decide
  | [], m, _ :: _, _, _ => by unfold leL; rw [cmpLL]; decide
  | _ :: _, [], _, h, _ => by unfold leL at h; simp [cmpLL] at h
  | _ :: _, _ :: _, [], _, h => by unfold leL at h; simp [cmpLL] at h
  | a :: l, b :: m, c :: k, h, h' => by
    unfold leL at h h' ⊢
    rw [cmpLL] at h h' ⊢
    by_cases h1 : a < b
    · by_cases h3 : b < c
      · rw [if_pos (by omega)]; decide
      · rw [if_neg h3] at h'
        by_cases h4 : c < b
        · rw [if_pos h4] at h'; omega
        · rw [if_pos (by omega)]; decide
    rw [if_neg h1] at h
    by_cases h2 : b < a
    · rw [if_pos h2] at h; omega
    rw [if_neg h2] at h
    obtain rfl : a = b := by omega
    by_cases h3 : a < c
    · rw [if_pos h3]; decide
    rw [if_neg h3] at h' ⊢
    by_cases h4 : c < a
    · rw [if_pos h4] at h'; omega
    rw [if_neg h4] at h' ⊢
    exact leL.trans (l := l) (m := m) (k := k) h h'
theorem cmpLL_app : ∀ {a a' : List Int} (b b' : List Int), a.length = a'.length → cmpLL (a ++ b) (a' ++ b') = if cmpLL a a' = 0 then cmpLL b b' else cmpLL a a'
  | [], [], b, b', _ => by rw [if_pos (by rfl)]; rfl
  | x :: a, y :: a', b, b', h => by
    have ih := cmpLL_app (a := a) (a' := a') b b' (by simpa using h)
    show cmpLL (x :: (a ++ b)) (y :: (a' ++ b')) = _
    rw [cmpLL, cmpLL]
    by_cases h1 : x < y
    · rw [if_pos h1, if_pos h1, if_neg (by decide)]
    by_cases h2 : y < x
    · rw [if_neg h1, if_pos h2, if_neg h1, if_pos h2, if_neg (by decide)]
    · rw [if_neg h1, if_neg h2, if_neg h1, if_neg h2]; exact ih
theorem cmpLL_cons_iff {x : Int} {a a' : List Int} : cmpLL (x :: a) (x :: a') = cmpLL a a' := by rw [cmpLL, if_neg (Int.lt_irrefl x), if_neg (Int.lt_irrefl x)]
theorem leL_app {a a' b b' : List Int} (hl : a.length = a'.length) : leL (a ++ b) (a' ++ b') ↔ (cmpLL a a' < 0 ∨ (a = a' ∧ leL b b')) := by
  unfold leL
  rw [cmpLL_app b b' hl]
  by_cases h : cmpLL a a' = 0
  · rw [if_pos h]
    exact ⟨fun h2 => .inr ⟨cmpLL_eq h, h2⟩, fun h2 => h2.elim (fun h3 => by omega) (·.2)⟩
  · rw [if_neg h]
    exact ⟨fun h2 => .inl (by omega), fun h2 => h2.elim (fun h3 => by omega) fun h3 => absurd (by rw [h3.1, cmpLL_self]) h⟩
/-! ## Row by row -/
def hd (D : List (List Int)) : List Int := D.map fun c => c.headD 0
def tl (D : List (List Int)) : List (List Int) := D.map List.tail
def fl : Nat → List (List Int) → List Int
  | 0, _ => []
  | h + 1, D => hd D ++ fl h (tl D)
theorem hd_len (D : List (List Int)) : (hd D).length = D.length := by unfold hd; rw [List.length_map]
theorem tl_len (D : List (List Int)) : (tl D).length = D.length := by unfold tl; rw [List.length_map]
theorem fl_cons : ∀ (h : Nat) (y : List Int) {A B : List (List Int)}, A.length = B.length → leL (fl h A) (fl h B) → leL (fl h (y :: A)) (fl h (y :: B))
  | 0, _, _, _, _, _ => leL.rfl
  | h + 1, y, A, B, hl, hle => by
    rw [fl, fl, leL_app (by rw [hd_len, hd_len, hl])] at hle
    rw [fl, fl, leL_app (by rw [hd_len, hd_len, List.length_cons, List.length_cons, hl])]
    show cmpLL (_ :: hd A) (_ :: hd B) < 0 ∨ _
    rw [cmpLL_cons_iff]
    refine hle.imp id fun h2 => ⟨?_, ?_⟩
    · show _ :: hd A = _ :: hd B; rw [h2.1]
    · exact fl_cons h y.tail (by show (tl A).length = (tl B).length; rw [tl_len, tl_len, hl]) h2.2
theorem fl_swap : ∀ (h : Nat) {x y : List Int} (T : List (List Int)), x.length = h → y.length = h → leL y x → leL (fl h (y :: x :: T)) (fl h (x :: y :: T))
  | 0, _, _, _, _, _, _ => leL.rfl
  | h + 1, a :: x, b :: y, T, hx, hy, hle => by
    rw [fl, fl, leL_app (by rw [hd_len, hd_len]; rfl)]
    show cmpLL (b :: a :: hd T) (a :: b :: hd T) < 0 ∨ _
    unfold leL at hle
    rw [cmpLL] at hle
    by_cases h1 : b < a
    · left; rw [cmpLL, if_pos h1]; decide
    rw [if_neg h1] at hle
    by_cases h2 : a < b
    · rw [if_pos h2] at hle; omega
    rw [if_neg h2] at hle
    obtain rfl : a = b := by omega
    exact .inr ⟨rfl, fl_swap h (tl T) (by simpa using hx) (by simpa using hy) hle⟩
/-! ## Columns in their order -/
def insL (x : List Int) : List (List Int) → List (List Int)
  | [] => [x]
  | y :: l => if leL x y then x :: y :: l else y :: insL x l
def srtL : List (List Int) → List (List Int)
  | [] => []
  | x :: l => insL x (srtL l)
theorem insL_perm (x : List Int) : ∀ l, (insL x l).Perm (x :: l)
  | [] => List.Perm.refl _
  | y :: l => by
    rw [insL]
    split
    · exact List.Perm.refl _
    · exact ((insL_perm x l).cons y).trans (List.Perm.swap x y l)
theorem srtL_perm : ∀ l, (srtL l).Perm l
  | [] => List.Perm.refl _
  | x :: l => (insL_perm x _).trans ((srtL_perm l).cons x)
theorem insL_len (x : List Int) (l : List (List Int)) : (insL x l).length = l.length + 1 := (insL_perm x l).length_eq
theorem srtL_len (l : List (List Int)) : (srtL l).length = l.length := (srtL_perm l).length_eq
theorem insL_sorted {x : List Int} : ∀ {l}, l.Pairwise leL → (insL x l).Pairwise leL
  | [], _ => by rw [insL]; exact List.pairwise_singleton _ _
  | y :: l, h => by
    rw [insL]
    split
    · rename_i hxy
      exact List.Pairwise.cons (fun z hz => (List.mem_cons.1 hz).elim (fun e => e ▸ hxy) fun hz => hxy.trans ((List.pairwise_cons.1 h).1 z hz)) h
    · rename_i hxy
      refine List.Pairwise.cons (fun z hz => ?_) (insL_sorted (List.pairwise_cons.1 h).2)
      rcases List.mem_cons.1 ((insL_perm x l).mem_iff.1 hz) with rfl | hz
      · exact (leL.total z y).resolve_left hxy
      · exact (List.pairwise_cons.1 h).1 z hz
theorem srtL_sorted : ∀ l, (srtL l).Pairwise leL
  | [] => List.Pairwise.nil
  | _ :: l => insL_sorted (srtL_sorted l)
theorem sorted_unique : ∀ {l m : List (List Int)}, l.Pairwise leL → m.Pairwise leL → l.Perm m → l = m
  | [], m, _, _, hp => by rw [hp.nil_eq]
  | a :: l, [], _, _, hp => absurd hp.length_eq (by simp)
  | a :: l, b :: m, hl, hm, hp => by
    have e : a = b := by
      have ha : a ∈ b :: m := hp.mem_iff.1 List.mem_cons_self
      have hb : b ∈ a :: l := hp.mem_iff.2 List.mem_cons_self
      rcases List.mem_cons.1 ha with e | ha
      · exact e
      rcases List.mem_cons.1 hb with e | hb
      · exact e.symm
      exact ((List.pairwise_cons.1 hl).1 b hb).anti ((List.pairwise_cons.1 hm).1 a ha)
    subst e
    rw [sorted_unique (List.pairwise_cons.1 hl).2 (List.pairwise_cons.1 hm).2 (List.Perm.cons_inv hp)]
theorem srtL_eq {l m : List (List Int)} (hp : l.Perm m) (hm : m.Pairwise leL) : srtL l = m := sorted_unique (srtL_sorted l) hm ((srtL_perm l).trans hp)
theorem srtL_cong {l m : List (List Int)} (hp : l.Perm m) : srtL l = srtL m := srtL_eq (hp.trans (srtL_perm m).symm) (srtL_sorted m)
theorem fl_ins (h : Nat) {x : List Int} (hx : x.length = h) : ∀ {l : List (List Int)}, (∀ c ∈ l, c.length = h) → leL (fl h (insL x l)) (fl h (x :: l))
  | [], _ => leL.rfl
  | y :: l, hl => by
    rw [insL]
    split
    · exact leL.rfl
    · rename_i hxy
      have hyx := (leL.total x y).resolve_left hxy
      exact (fl_cons h y (insL_len x l) (fl_ins h hx fun c hc => hl c (List.mem_cons_of_mem _ hc))).trans (fl_swap h l hx (hl y List.mem_cons_self) hyx)
theorem fl_srt (h : Nat) : ∀ {l : List (List Int)}, (∀ c ∈ l, c.length = h) → leL (fl h (srtL l)) (fl h l)
  | [], _ => leL.rfl
  | x :: l, hl => by
    have ih := fl_srt h (l := l) fun c hc => hl c (List.mem_cons_of_mem _ hc)
    exact (fl_ins h (hl x List.mem_cons_self) fun c hc => hl c (List.mem_cons_of_mem _ ((srtL_perm l).mem_iff.1 hc))).trans (fl_cons h x (srtL_len l) ih)
/-- Of all orders of the columns the sorted one is written least. -/
theorem fl_least {h : Nat} {C D : List (List Int)} (hp : D.Perm C) (hC : ∀ c ∈ C, c.length = h) : leL (fl h (srtL C)) (fl h D) :=
  srtL_cong hp ▸ fl_srt h fun c hc => hC c (hp.mem_iff.1 hc)
end Go.Fw.Cn
