/- Chapter 16: graphs with their sides exchanged: their matrices, how many symmetries; lists with one number more. Plain; links compared. -/
import Derived.Test.YtmambmpohkollaaGreatDoorCnTY
import Derived.Test.YtmambmpohkollaaGreatDoorFwTW
import Derived.Test.YtmambmpohkollaaGreatDoorProg
namespace Go.Fw
open Go Go.RowKit Go.Fw.Cn
/-- A link as a value. -/
abbrev lkv (p : Cn.Lk) : Value := .agg #[.int .i64 p.id, .int .i64 p.o, .int .i64 p.r]
def EqL (P : Program) (T : TypeId) : Prop := ∀ (x y : Operand) (p q : Cn.Lk) (w : World),
  ((eqGuard .eql T x y (lkv p) (lkv q)).run P w = .ok () w ∧ (binOp .eql T (lkv p) (lkv q)).run P w = .ok (.bool (decide (p.id = q.id ∧ p.o = q.o ∧ p.r = q.r))) w) ∧
  ((eqGuard .neq T x y (lkv p) (lkv q)).run P w = .ok () w ∧ (binOp .neq T (lkv p) (lkv q)).run P w = .ok (.bool (decide ¬ (p.id = q.id ∧ p.o = q.o ∧ p.r = q.r))) w)
section
variable {P : Program} {Q : Exit → Act → World → Prop} {w0 : Ctx} {σ : List Res} {φ : List (Bool × VP)} {fr : Fr} {ops : Array Oper} {rest : List Oper} {d : Nat} {ty : TypeId} {pos : String} {aft : Array Edge}
theorem JL_neqL {t t' : TypeId} {x y : Operand} (p q : Cn.Lk) (hE : EqL P t) (hx : Ev fr x (lkv p)) (hy : Ev fr y (lkv q)) (n : JL P ops Q w0 σ φ rest (upd fr d (.bool (decide ¬ (p.id = q.id ∧ p.o = q.o ∧ p.r = q.r))))) : JL P ops Q w0 σ φ (⟨some d, .binOp .neq t x y t', ty, pos, aft, none⟩ :: rest) fr :=
  JL_pure _ (fun w => by
    simp only [execOp, hx.eq, hy.eq, Sem.run_bind, (hE x y p q w).2.1, (hE x y p q w).2.2, Result.andThen_ok, Sem.run_pure]) n
end
end Go.Fw
namespace Go.Fw.Cn
open Go Go.RowKit Go.Fw
theorem lk_ext {p q : Lk} (h : p.id = q.id ∧ p.o = q.o ∧ p.r = q.r) : p = q := by
  obtain ⟨a, b, c⟩ := p
  obtain ⟨d, e, f⟩ := q
  obtain ⟨rfl, rfl, rfl⟩ := h; rfl
/-! ## Sides exchanged -/
def mrK (K : List Lk) : List Lk := K.map fun k => ⟨k.id, k.r, k.o⟩
theorem mrK_len (K : List Lk) : (mrK K).length = K.length := List.length_map _
theorem mrK_mrK (K : List Lk) : mrK (mrK K) = K := by
  unfold mrK
  rw [List.map_map]
  exact (List.map_congr_left fun k _ => rfl).trans (List.map_id K)
theorem mrK_get {K : List Lk} {i : Nat} (h : i < K.length) : (mrK K).getD i dK = ⟨(K.getD i dK).id, (K.getD i dK).r, (K.getD i dK).o⟩ := by
  unfold mrK
  rw [List.getD_eq_getElem?_getD, List.getElem?_map, List.getElem?_eq_getElem h, List.getD_eq_getElem?_getD, List.getElem?_eq_getElem h]; rfl
theorem mrK_take {K : List Lk} {i : Nat} (h : i < K.length) : (mrK K).take (i + 1) = (mrK K).take i ++ [⟨(K.getD i dK).id, (K.getD i dK).r, (K.getD i dK).o⟩] := by
  rw [takeK_succ (by rw [mrK_len]; exact h), mrK_get h]
theorem mrK_o (K : List Lk) : (mrK K).map Lk.o = K.map Lk.r := by unfold mrK; rw [List.map_map]; rfl
theorem mrK_r (K : List Lk) : (mrK K).map Lk.r = K.map Lk.o := by unfold mrK; rw [List.map_map]; rfl
theorem valG_mr {O R : List Int} {K : List Lk} (h : valG O R K) : valG R O (mrK K) := by
  obtain ⟨h1, h2, h3, h4, h5, h6⟩ := h
  refine ⟨h2, h1, by rw [mrK_len]; exact h3, fun i hi => ?_, by rw [mrK_o]; exact h6, by rw [mrK_r]; exact h5⟩
  rw [mrK_len] at hi
  have h := h4 i hi
  unfold lkA at h ⊢
  rw [mrK_get hi]
  refine ⟨h.1, h.2.1, ?_, h.2.2.2.2, h.2.2.2.1⟩
  rcases h.2.2.1 with e | e
  · exact .inl e
  · exact .inr (by rw [mrK_get (by omega)]; exact e)
theorem errG_mr {O R : List Int} {K : List Lk} (h : valG O R K) : errG R O (mrK K) = errG O R K := by
  unfold errG
  rw [if_pos h, if_pos (valG_mr h)]
  by_cases h1 : 6 < O.length ∨ 6 < R.length
  · rw [if_pos h1, if_pos h1.symm]
  · rw [if_neg h1, if_neg fun h2 => h1 h2.symm]
theorem cntK_mr (K : List Lk) (o r : Int) : cntK (mrK K) r o = cntK K o r := by
  unfold cntK mrK
  rw [List.filter_map, List.length_map]
  congr 1
  exact List.filter_congr fun k _ => decide_eq_decide.2 ⟨fun h => ⟨h.2, h.1⟩, fun h => ⟨h.2, h.1⟩⟩
theorem mat_mr {O R : List Int} {K : List Lk} {i k : Nat} (hi : i < O.length) (hk : k < R.length) : en (matG R O (mrK K)) k i = en (matG O R K) i k := by
  unfold en
  rw [matG_get hk hi, matG_get hi hk, cntK_mr]
theorem nM_tr {X Y : List (List Int)} (h : ∀ i, i < X.length → ∀ k, k < Y.length → en Y k i = en X i k) : nM X X Y.length ≤ nM Y Y X.length := by
  rw [← symL_len, ← symL_len]
  have h1 : ((symL X Y.length).map fun x => (x.2, x.1)).length = (symL X Y.length).length := List.length_map _
  rw [← h1]
  refine sub_lenG (List.pairwise_map.2 ?_) fun y hy => ?_
  · refine (symL_nodup X Y.length).imp ?_
    intro a b hab e
    obtain ⟨e1, e2⟩ := Prod.mk.inj e
    exact hab (Prod.ext e2 e1)
  · obtain ⟨x, hx, rfl⟩ := List.mem_map.1 hy
    obtain ⟨a1, a2, a3⟩ := mem_symL.1 hx
    refine mem_symL.2 ⟨a2, a1, (mp_iff a2 a1).2 fun k hk i hi => ?_⟩
    have := (mp_iff a1 a2).1 a3 i hi k hk
    rw [h _ (a1.get hi) _ (a2.get hk), h _ hi _ hk]
    exact this
theorem syms_mr {O R : List Int} {K : List Lk} : nM (matG R O (mrK K)) (matG R O (mrK K)) O.length = nM (matG O R K) (matG O R K) R.length := by
  refine Nat.le_antisymm ?_ ?_
  · have h := nM_tr (X := matG R O (mrK K)) (Y := matG O R K) fun i hi k hk => by
      rw [matG_len] at hi hk
      exact (mat_mr hk hi).symm
    rwa [matG_len, matG_len] at h
  · have h := nM_tr (X := matG O R K) (Y := matG R O (mrK K)) fun i hi k hk => by
      rw [matG_len] at hi hk
      exact mat_mr hi hk
    rwa [matG_len, matG_len] at h
/-- What Mirror answers. -/
def MirS (O R : List Int) (K : List Lk) (O' R' : List Int) (K' : List Lk) (e : Int) : Prop := (valG O R K ∧ O' = R ∧ R' = O ∧ K' = mrK K ∧ e = 0) ∨ (¬ valG O R K ∧ O' = [] ∧ R' = [] ∧ K' = [] ∧ e = 1)
theorem MirS.uniq {O R : List Int} {K : List Lk} {O1 R1 O2 R2 : List Int} {K1 K2 : List Lk} {e1 e2 : Int} (h : MirS O R K O1 R1 K1 e1) (h2 : MirS O R K O2 R2 K2 e2) : O2 = O1 ∧ R2 = R1 ∧ K2 = K1 ∧ e2 = e1 := by
  rcases h with ⟨v, rfl, rfl, rfl, rfl⟩ | ⟨v, rfl, rfl, rfl, rfl⟩ <;> rcases h2 with ⟨v2, rfl, rfl, rfl, rfl⟩ | ⟨v2, rfl, rfl, rfl, rfl⟩
  · exact ⟨rfl, rfl, rfl, rfl⟩
  · exact absurd v v2
  · exact absurd v2 v
  · exact ⟨rfl, rfl, rfl, rfl⟩
theorem MirS.ok {O R : List Int} {K : List Lk} {O1 R1 : List Int} {K1 : List Lk} {e1 : Int} (h : MirS O R K O1 R1 K1 e1) (he : e1 = 0) : valG O R K ∧ R = O1 ∧ O = R1 ∧ mrK K = K1 := by
  rcases h with ⟨v, rfl, rfl, rfl, _⟩ | ⟨_, _, _, _, rfl⟩
  · exact ⟨v, rfl, rfl, rfl⟩
  · exact absurd he (by decide)
theorem mirS_len {O R : List Int} {K : List Lk} {O1 R1 : List Int} {K1 : List Lk} {e1 : Int} (h : MirS O R K O1 R1 K1 e1) : O1.length ≤ R.length ∧ R1.length ≤ O.length ∧ K1.length ≤ K.length := by
  rcases h with ⟨v, rfl, rfl, rfl, _⟩ | ⟨_, rfl, rfl, rfl, _⟩
  · exact ⟨Nat.le_refl _, Nat.le_refl _, Nat.le_of_eq (mrK_len K)⟩
  · exact ⟨Nat.zero_le _, Nat.zero_le _, Nat.zero_le _⟩
theorem mir_back {O R : List Int} {K : List Lk} {O1 R1 : List Int} {K1 : List Lk} {e1 : Int} (hv : valG O R K) (h : MirS R O (mrK K) O1 R1 K1 e1) : O1 = O ∧ R1 = R ∧ K1 = K ∧ e1 = 0 := by
  rcases h with ⟨_, rfl, rfl, rfl, e⟩ | ⟨v, _, _, _, _⟩
  · exact ⟨rfl, rfl, mrK_mrK K, e⟩
  · exact absurd (valG_mr hv) v
/-! ## A list with one number more -/
theorem distI_nil : distI [] = [] := List.eq_nil_of_length_eq_zero (Nat.le_zero.1 (distI_len []))
theorem distI_snoc_old {X : List Int} {n : Int} (h : n ∈ distI X) : distI (X ++ [n]) = distI X :=
  asc_ext (distI_asc _) (distI_asc _) fun x => by
    rw [distI_mem, distI_mem, List.mem_append, List.mem_singleton]
    exact ⟨fun hx => hx.elim id fun e => e ▸ distI_mem.1 h, .inl⟩
theorem distI_snoc_new {X : List Int} {n : Int} {k : Nat} (hk : k ≤ (distI X).length) (h1 : ∀ j, j < k → (distI X).getD j 0 < n) (h2 : k < (distI X).length → n < (distI X).getD k 0) : (distI X).take k ++ [n] ++ (distI X).drop k = distI (X ++ [n]) := by
  have hA := distI_asc X
  refine asc_ext (fun i j hij hj => ?_) (distI_asc _) fun x => ?_
  · have hl : ((distI X).take k ++ [n] ++ (distI X).drop k).length = (distI X).length + 1 := by
      simp only [List.length_append, List.length_take, List.length_drop, List.length_cons, List.length_nil]; omega
    have hg : ∀ m, m < (distI X).length + 1 → ((distI X).take k ++ [n] ++ (distI X).drop k).getD m 0 = if m < k then (distI X).getD m 0 else if m = k then n else (distI X).getD (m - 1) 0 := fun m hm => by
      have ht : ((distI X).take k).length = k := by rw [List.length_take]; omega
      rw [List.getD_eq_getElem?_getD, List.append_assoc, List.getElem?_append, ht]
      by_cases a : m < k
      · rw [if_pos a, if_pos a, List.getElem?_take, if_pos a, List.getD_eq_getElem?_getD]
      · rw [if_neg a, if_neg a, List.getElem?_append]
        by_cases b : m = k
        · rw [if_pos b, b, Nat.sub_self, if_pos (show 0 < [n].length from Nat.zero_lt_one)]; rfl
        · rw [if_neg b, if_neg (by simp; omega), List.getElem?_drop, List.getD_eq_getElem?_getD, show k + (m - k - [n].length) = m - 1 by simp; omega]
    rw [hl] at hj
    rw [hg i (by omega), hg j hj]
    have hlt : ∀ a b, a < b → b < (distI X).length → (distI X).getD a 0 < (distI X).getD b 0 := fun a b h3 h4 => hA a b h3 h4
    by_cases a : i < k
    · rw [if_pos a]
      by_cases b : j < k
      · rw [if_pos b]; exact hlt i j hij (by omega)
      · rw [if_neg b]
        by_cases c : j = k
        · rw [if_pos c]; exact h1 i a
        · rw [if_neg c]
          exact hlt i (j - 1) (by omega) (by omega)
    · rw [if_neg a, if_neg (show ¬ j < k by omega), if_neg (show ¬ j = k by omega)]
      by_cases c : i = k
      · rw [if_pos c]
        have h3 := h2 (by omega)
        by_cases d : j - 1 = k
        · rw [d]; exact h3
        · have := hlt k (j - 1) (by omega) (by omega); omega
      · rw [if_neg c]; exact hlt (i - 1) (j - 1) (by omega) (by omega)
  · rw [List.mem_append, List.mem_append, List.mem_singleton, distI_mem (L := X ++ [n]), List.mem_append, List.mem_singleton, ← distI_mem (L := X)]
    constructor
    · rintro ((h | h) | h)
      · exact .inl (List.mem_of_mem_take h)
      · exact .inr h
      · exact .inl (List.mem_of_mem_drop h)
    · rintro (h | h)
      · rw [← List.take_append_drop k (distI X), List.mem_append] at h
        exact h.elim (fun h => .inl (.inl h)) .inr
      · exact .inl (.inr h)
theorem ids_asc {O R : List Int} {K : List Lk} (h : valG O R K) : ∀ {i j : Nat}, i < j → j < K.length → (K.getD i dK).id < (K.getD j dK).id
  | i, 0, h1, _ => absurd h1 (Nat.not_lt_zero i)
  | i, j + 1, h1, h2 => by
    have h3 := (h.2.2.2.1 (j + 1) h2).2.2.1
    rw [Nat.add_sub_cancel] at h3
    have h4 : (K.getD j dK).id < (K.getD (j + 1) dK).id := by omega
    by_cases e : i = j
    · subst e; exact h4
    · have := ids_asc h (i := i) (j := j) (by omega) (by omega)
      omega
theorem take_lt {L : List Lk} (hs : ∀ i j, i < j → j < L.length → (L.getD i dK).id < (L.getD j dK).id) {i : Nat} (hi : i < L.length) : ∀ y ∈ L.take i, y.id < (L.getD i dK).id := fun y hy => by
  obtain ⟨j, hj, e⟩ := List.mem_iff_getElem.1 hy
  rw [List.length_take] at hj
  rw [List.getElem_take] at e
  have h := hs j i (by omega) hi
  rw [List.getD_eq_getElem?_getD, List.getElem?_eq_getElem (by omega)] at h
  rw [← e]; exact h
theorem dist_o {O R : List Int} {K : List Lk} (h : valG O R K) : distI (K.map Lk.o) = O :=
  asc_ext (distI_asc _) h.1.1.asc fun x => by
    rw [distI_mem]
    refine ⟨fun hx => ?_, h.2.2.2.2.1 x⟩
    obtain ⟨k, hk, rfl⟩ := List.mem_map.1 hx
    obtain ⟨j, hj, rfl⟩ := mem_getK hk
    exact (h.2.2.2.1 j hj).2.2.2.1
theorem dist_r {O R : List Int} {K : List Lk} (h : valG O R K) : distI (K.map Lk.r) = R :=
  asc_ext (distI_asc _) h.2.1.1.asc fun x => by
    rw [distI_mem]
    refine ⟨fun hx => ?_, h.2.2.2.2.2 x⟩
    obtain ⟨k, hk, rfl⟩ := List.mem_map.1 hx
    obtain ⟨j, hj, rfl⟩ := mem_getK hk
    exact (h.2.2.2.1 j hj).2.2.2.2
theorem i64sTake {X : Nat → Prop} {w : World} {ad : Option Addr} {l : List Int} (k : Nat) (h : (vCells ad (i64s l)).holds X w) : (vCells ad (i64s (l.take k))).holds X w := by
  intro j u hj
  refine h j u ?_
  unfold i64s at hj ⊢
  rw [List.map_take, List.getElem?_take] at hj
  split at hj
  · exact hj
  · cases hj
theorem lks_snoc (l : List Lk) (x : Lk) : lks l ++ lks [x] = lks (l ++ [x]) := by
  show fcl lk l ++ fcl lk [x] = fcl lk (l ++ [x])
  unfold fcl
  simp
end Go.Fw.Cn
namespace Go.Fw.K
open Go Go.RowKit Go.Proofs Go.Fw Go.Fw.Cn
theorem eqLink : EqL Tryz.prog 66 := by
  intro x y p q w
  have u3 := Tryz.underlying3
  have a3 := Tryz.isAgg3
  have z3 := Tryz.sizeOf3
  have hS : Tryz.prog.underlying 66 = some (.struct (Tryz.prog.fieldsOf 66)) := by kernel_rfl
  have hp : Tryz.prog.stoodInHeld 66 = false := by kernel_rfl
  have hm : Tryz.prog.eqGuardType Tryz.prog.depth 66 = false := by kernel_rfl
  obtain ⟨a, b, e⟩ := p
  obtain ⟨c, d, f⟩ := q
  refine ⟨⟨run_eqGuard_agg w .eql _ x y _ _ hm, ?_⟩, run_eqGuard_agg w .neq _ x y _ _ hm, ?_⟩
  · rw [run_eql_struct, show (10000 : Nat) = 9999 + 1 from rfl, run_equalIn_agg w 9999 66 _ _ hS hp]
    simp only [Program.fieldsOf, Tryz.underlying66]
    go_simp
    by_cases h1 : a = c <;> by_cases h2 : b = d <;> by_cases h3 : e = f <;> simp [h1, h2, h3]
  · rw [run_neq_struct, show (10000 : Nat) = 9999 + 1 from rfl, run_equalIn_agg w 9999 66 _ _ hS hp]
    simp only [Program.fieldsOf, Tryz.underlying66]
    go_simp
    by_cases h1 : a = c <;> by_cases h2 : b = d <;> by_cases h3 : e = f <;> simp [h1, h2, h3]
end Go.Fw.K
