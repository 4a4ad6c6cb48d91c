/- Chapter 24: the reference's list of all sequences, its table of orders. Plain, but for the views of lists of lists. -/
import Derived.Test.YtjdojhhngganeaaGreatDoorDgN
namespace Go.Fw
open Go Go.RowKit Go.Nat9

/-! ## One sequence by its number -/
theorem sq_get {n : Nat} {rd : Nat → Nat → Bool} {j s v k : Nat} (hv : v < n) (hr : rd s v = true) (hk : k < (sq n rd j (s ||| 2 ^ v)).length) : (sq n rd (j + 1) s).getD (sqP n rd j s v + k) [] = v :: (sq n rd j (s ||| 2 ^ v)).getD k [] := by
  have hs : ∀ d, (List.range (v + 1 + d)).flatMap (fun u => if rd s u = true then (sq n rd j (s ||| 2 ^ u)).map (u :: ·) else []) = (List.range v).flatMap (fun u => if rd s u = true then (sq n rd j (s ||| 2 ^ u)).map (u :: ·) else []) ++ ((sq n rd j (s ||| 2 ^ v)).map (v :: ·) ++ ((List.range d).map (v + 1 + ·)).flatMap (fun u => if rd s u = true then (sq n rd j (s ||| 2 ^ u)).map (u :: ·) else [])) := by
    intro d
    rw [List.range_add, List.range_succ, List.flatMap_append, List.flatMap_append, List.flatMap_cons, List.flatMap_nil, List.append_nil, if_pos hr, List.append_assoc]
  have hn : n = v + 1 + (n - (v + 1)) := by omega
  have e1 : sq n rd (j + 1) s = (List.range n).flatMap (fun u => if rd s u = true then (sq n rd j (s ||| 2 ^ u)).map (u :: ·) else []) := rfl
  rw [e1, congrArg List.range hn, hs, List.getD_eq_getElem?_getD, show sqP n rd j s v + k = ((List.range v).flatMap (fun u => if rd s u = true then (sq n rd j (s ||| 2 ^ u)).map (u :: ·) else [])).length + k from rfl, List.getElem?_append_right (Nat.le_add_right _ _), Nat.add_sub_cancel_left]
  rw [List.getElem?_append_left (by rw [List.length_map]; exact hk), List.getElem?_map, List.getD_eq_getElem?_getD, List.getElem?_eq_getElem hk]
  rfl
/-- What the walk through At keeps: what stands, and the number among what may follow. -/
structure AtI (m : Nat) (l : List Pr) (k : Nat) (q : List Nat) (kk : Nat) : Prop where
  len : q.length ≤ m
  ok : okS m (rdA l) 0 q
  lt : kk < (sq m (rdA l) (m - q.length) (stU 0 q)).length
  eq : (seqsL m l).getD k [] = q ++ (sq m (rdA l) (m - q.length) (stU 0 q)).getD kk []
theorem AtI.start {m k : Nat} {l : List Pr} (h : k < (seqsL m l).length) : AtI m l k [] k := ⟨Nat.zero_le _, trivial, h, rfl⟩
theorem AtI.bc {m k kk : Nat} {l : List Pr} {q : List Nat} (h : AtI m l k q kk) : bc m (stU 0 q) = q.length := by rw [okS_bc h.ok, bc_zero, Nat.zero_add]
theorem AtI.st {m k kk : Nat} {l : List Pr} {q : List Nat} (h : AtI m l k q kk) : stU 0 q < 2 ^ m := stU_lt (Nat.pow_pos (by decide)) h.ok
theorem AtI.take {m k kk k2 v : Nat} {l : List Pr} {q : List Nat} (h : AtI m l k q kk) (hq : q.length < m) (hv : v < m) (hr : rdA l (stU 0 q) v = true) (hk : kk = k2 + sqP m (rdA l) (m - q.length - 1) (stU 0 q) v) (hlt : k2 < (sq m (rdA l) (m - q.length - 1) (stU 0 q ||| 2 ^ v)).length) : AtI m l k (q ++ [v]) k2 := by
  have e : m - (q ++ [v]).length = m - q.length - 1 := by rw [List.length_append]; simp only [List.length_cons, List.length_nil]; omega
  have es : stU 0 (q ++ [v]) = stU 0 q ||| 2 ^ v := by rw [stU_app]; rfl
  refine ⟨by rw [List.length_append]; simp only [List.length_cons, List.length_nil]; omega, okS_app.2 ⟨h.ok, hv, hr, trivial⟩, by rw [e, es]; exact hlt, ?_⟩
  rw [h.eq, e, es, List.append_assoc]
  congr 1
  have := sq_get (n := m) (rd := rdA l) (j := m - q.length - 1) hv hr hlt
  rw [show m - q.length - 1 + 1 = m - q.length from by omega, Nat.add_comm, ← hk] at this
  rw [this]; rfl
theorem AtI.done {m k kk : Nat} {l : List Pr} {q : List Nat} (h : AtI m l k q kk) (hq : ¬ q.length < m) : q = (seqsL m l).getD k [] := by
  have e : m - q.length = 0 := by omega
  have h1 := h.lt
  have h2 := h.eq
  rw [e, sq] at h1 h2
  have : kk = 0 := by simpa using h1
  rw [h2, this]; simp
theorem AtI.more {m k kk : Nat} {l : List Pr} {q : List Nat} (h : AtI m l k q kk) (hq : q.length < m) : kk < sqP m (rdA l) (m - q.length - 1) (stU 0 q) m := by
  rw [sqP_full, show m - q.length - 1 + 1 = m - q.length from by omega]; exact h.lt
theorem at_way {m k kk v : Nat} {l : List Pr} {q : List Nat} (hd : dgC m l) (hm : m ≤ 10) (h : AtI m l k q kk) (hv : v < m) (hr : rdA l (stU 0 q) v = true) : (waysL m l).getD (stU 0 q ||| 2 ^ v) 0 = (((sq m (rdA l) (m - q.length - 1) (stU 0 q ||| 2 ^ v)).length : Nat) : Int) := by
  rw [ways_seq hd hm (or_lt m h.st (pow_lt m hv)), bc_or hv (rdA_bit hr), h.bc, show m - (q.length + 1) = m - q.length - 1 from by omega]
theorem at_dead {m k kk k2 v : Nat} {l : List Pr} {q : List Nat} (h : AtI m l k q kk) (hq : q.length < m) (hk : kk = k2 + sqP m (rdA l) (m - q.length - 1) (stU 0 q) v) (hv : v = m) : False := by
  subst hv
  have := h.more hq
  omega
theorem stU_snoc (q : List Nat) (v : Nat) : stU 0 (q ++ [v]) = stU 0 q ||| 2 ^ v := by rw [stU_app]; rfl
theorem nI_snoc (q : List Nat) (v : Nat) : nI (q ++ [v]) = nI q ++ [(v : Int)] := by unfold nI; rw [List.map_append]; rfl
/-! ## Lists of lists -/
structure Rw where
  ad : Option Addr
  c : Nat
  L : List Int
abbrev rwc (x : Rw) : Value := .slice x.ad x.L.length x.c
def rwcells (l : List Rw) : List Value := l.map rwc
def dRw : Rw := ⟨none, 0, []⟩
theorem rwcells_len (l : List Rw) : (rwcells l).length = l.length := by unfold rwcells; rw [List.length_map]
theorem rwcells_get {l : List Rw} {k : Nat} (h : k < l.length) : (rwcells l)[k]? = some (.slice (l.getD k dRw).ad (l.getD k dRw).L.length (l.getD k dRw).c) := by
  unfold rwcells
  rw [List.getElem?_map, List.getD_eq_getElem?_getD, List.getElem?_eq_getElem h]; rfl
theorem rwcells_snoc (l : List Rw) (x : Rw) : rwcells l ++ [.slice x.ad x.L.length x.c] = rwcells (l ++ [x]) := by unfold rwcells; rw [List.map_append]; rfl
theorem rw_mem {l : List Rw} {j : Nat} (h : j < l.length) : l.getD j dRw ∈ l := by
  rw [List.getD_eq_getElem?_getD, List.getElem?_eq_getElem h]; exact List.getElem_mem h
def vRws (l : List Rw) : VP where
  holds X w := ∀ x ∈ l, CellsAt X w x.ad (i64s x.L)
  mono _ _ _ _ h _ b c := fun x hx => (h x hx).mono b c
section
variable {P : Program} {Q : Exit → Act → World → Prop} {w0 : Ctx} {σ : List Res} {φ : List (Bool × VP)} {fr : Fr} {ops : Array Oper} {lo : List Oper} {c : Code}
theorem JC_rwsNil (k : JC P c Q w0 σ ((true, vRws []) :: φ) fr) : JC P c Q w0 σ φ fr := JC_addView (fun _ _ x hx => by cases hx) k
theorem JL_rwsSnoc {f : Bool} {l : List Rw} (x : Rw) (h : (f, vRws l) ∈ φ) (h1 : (f, vCells x.ad (i64s x.L)) ∈ φ) (k : JL P ops Q w0 σ ((f, vRws (l ++ [x])) :: φ) lo fr) : JL P ops Q w0 σ φ lo fr := by
  refine JL_addView (fun _ s => ?_) k
  intro y hy
  rcases List.mem_append.1 hy with hy | hy
  · exact s.views _ h y hy
  · rw [List.mem_singleton.1 hy]; exact s.views _ h1
theorem JC_rwsGet {f : Bool} {l : List Rw} (x : Rw) (h : (f, vRws l) ∈ φ) (hx : x ∈ l) (k : JC P c Q w0 σ ((f, vCells x.ad (i64s x.L)) :: φ) fr) : JC P c Q w0 σ φ fr :=
  JC_addView (p := vCells x.ad (i64s x.L)) (f := f) (fun _ s => s.views _ h x hx) k
end
/-- a list of lists -/
def RWS (R : List (List Int)) (v : Value) (φo : List VP) : Prop := ∃ (ad : Option Addr) (c : Nat) (r : List Rw), v = .slice ad r.length c ∧ r.map (·.L) = R ∧ φo = [vCells ad (rwcells r), vRws r]
/-! ## The table of orders -/
def tbF (f : Nat → Nat → Nat) : List Value := (List.range 100).map fun x => Value.int .i64 ((f (x / 10) (x % 10) : Nat) : Int)
theorem tbF_len (f : Nat → Nat → Nat) : (tbF f).length = 100 := by unfold tbF; simp
theorem tbF_at (f : Nat → Nat → Nat) {i j : Nat} (hi : i < 10) (hj : j < 10) : (tbF f)[0 + i * 10 + j * 1]? = some (.int .i64 ((f i j : Nat) : Int)) := by
  unfold tbF
  rw [List.getElem?_map, List.getElem?_range (by omega)]
  show some (Value.int .i64 ((f ((0 + i * 10 + j * 1) / 10) ((0 + i * 10 + j * 1) % 10) : Nat) : Int)) = _
  rw [show (0 + i * 10 + j * 1) / 10 = i from by omega, show (0 + i * 10 + j * 1) % 10 = j from by omega]
theorem tbF_one (f : Nat → Nat → Nat) : AllOne (tbF f) := fun v hv => by
  unfold tbF at hv
  obtain ⟨x, _, rfl⟩ := List.mem_map.1 hv
  rfl
theorem tbF_zero : tbF (fun _ _ => 0) = List.replicate 100 (.int .i64 0) := by unfold tbF; rw [List.map_const', List.length_range]; rfl
theorem tbF_put {f g : Nat → Nat → Nat} {i j : Nat} (hi : i < 10) (hj : j < 10) (h : ∀ a b, g a b = if a = i ∧ b = j then f a b + 1 else f a b) : (tbF f).set (0 + i * 10 + j * 1) (.int .i64 (((f i j : Nat) : Int) + 1)) = tbF g := by
  apply List.ext_getElem?
  intro x
  rw [List.getElem?_set]
  unfold tbF
  rw [List.getElem?_map, List.getElem?_map, List.length_map, List.length_range]
  by_cases hx : x < 100
  · rw [List.getElem?_range hx]
    show _ = some (Value.int .i64 ((g (x / 10) (x % 10) : Nat) : Int))
    rw [h]
    by_cases e : 0 + i * 10 + j * 1 = x
    · rw [if_pos e, if_pos (by omega), if_pos ⟨by omega, by omega⟩, show x / 10 = i from by omega, show x % 10 = j from by omega]; rfl
    · rw [if_neg e, if_neg (by omega)]; rfl
  · rw [List.getElem?_eq_none (by simpa using hx), if_neg (by omega)]; rfl
def befT (n : Nat) (l : List (List Nat)) (i j : Nat) : Nat := (l.filter fun p => decide (p.idxOf i < p.idxOf j ∧ p.idxOf j < n)).length
/-- How far the table is: so many sequences; of the next one all pairs from the first so many places on, and of one place with some. -/
def gT (n : Nat) (l : List (List Nat)) (a J K i j : Nat) : Nat := befT n (l.take a) i j + if ((l.getD a []).idxOf i < J ∧ (l.getD a []).idxOf i < (l.getD a []).idxOf j ∧ (l.getD a []).idxOf j < n) ∨ ((l.getD a []).idxOf i = J ∧ J < (l.getD a []).idxOf j ∧ (l.getD a []).idxOf j < K) then 1 else 0
theorem gT_zero (n : Nat) (l : List (List Nat)) (a : Nat) : gT n l a 0 1 = befT n (l.take a) := by
  funext i j
  unfold gT
  rw [if_neg (by omega), Nat.add_zero]
theorem gT_row (n : Nat) (l : List (List Nat)) (a J : Nat) : gT n l a J n = gT n l a (J + 1) (J + 1 + 1) := by
  funext i j
  unfold gT
  congr 1
  by_cases c : ((l.getD a []).idxOf i < J ∧ (l.getD a []).idxOf i < (l.getD a []).idxOf j ∧ (l.getD a []).idxOf j < n) ∨ ((l.getD a []).idxOf i = J ∧ J < (l.getD a []).idxOf j ∧ (l.getD a []).idxOf j < n)
  · rw [if_pos c, if_pos (by omega)]
  · rw [if_neg c, if_neg (by omega)]
theorem gT_end {n a : Nat} {l : List (List Nat)} (ha : a < l.length) : gT n l a n (n + 1) = befT n (l.take (a + 1)) := by
  funext i j
  unfold gT befT
  rw [List.take_add_one, List.filter_append, List.length_append]
  congr 1
  rw [List.getElem?_eq_getElem ha, Option.toList_some, List.filter_cons, List.filter_nil]
  have e : l.getD a [] = l[a] := by rw [List.getD_eq_getElem?_getD, List.getElem?_eq_getElem ha]; rfl
  rw [e]
  by_cases c : l[a].idxOf i < l[a].idxOf j ∧ l[a].idxOf j < n
  · rw [if_pos (by omega), if_pos (decide_eq_true c)]; rfl
  · rw [if_neg (by omega), if_neg (by simpa using c)]; rfl
theorem gT_step {n a J K : Nat} {l : List (List Nat)} (hnd : (l.getD a []).Nodup) (hl : (l.getD a []).length = n) (hJ : J < K) (hK : K < n) (i j : Nat) :
    gT n l a J (K + 1) i j = if i = (l.getD a []).getD J 0 ∧ j = (l.getD a []).getD K 0 then gT n l a J K i j + 1 else gT n l a J K i j := by
  generalize hp : l.getD a [] = p at *
  have hx : ∀ (x J : Nat), J < n → (x = p.getD J 0 ↔ p.idxOf x = J) := fun x J hJn => by
    have e : p.getD J 0 = p[J]'(by omega) := by rw [List.getD_eq_getElem?_getD, List.getElem?_eq_getElem (by omega)]; rfl
    rw [e]
    constructor
    · rintro rfl; exact hnd.idxOf_getElem J (by omega)
    · intro h
      subst h
      exact (List.getElem_idxOf (by omega)).symm
  by_cases c : p.idxOf i = J ∧ p.idxOf j = K
  · rw [if_pos ⟨(hx i J (by omega)).2 c.1, (hx j K hK).2 c.2⟩]
    unfold gT
    rw [hp, if_neg (show ¬ ((p.idxOf i < J ∧ p.idxOf i < p.idxOf j ∧ p.idxOf j < n) ∨ (p.idxOf i = J ∧ J < p.idxOf j ∧ p.idxOf j < K)) by omega), if_pos (by omega)]
  · rw [if_neg (show ¬ (i = p.getD J 0 ∧ j = p.getD K 0) from fun e => c ⟨(hx i J (by omega)).1 e.1, (hx j K hK).1 e.2⟩)]
    unfold gT
    rw [hp]
    congr 1
    by_cases d : (p.idxOf i < J ∧ p.idxOf i < p.idxOf j ∧ p.idxOf j < n) ∨ (p.idxOf i = J ∧ J < p.idxOf j ∧ p.idxOf j < K)
    · rw [if_pos d, if_pos (by omega)]
    · rw [if_neg d, if_neg (by omega)]
theorem gT_le (n : Nat) (l : List (List Nat)) (a J K i j : Nat) : gT n l a J K i j ≤ l.length + 1 := by
  have h : befT n (l.take a) i j ≤ l.length := Nat.le_trans (List.length_filter_le _ _) (by rw [List.length_take]; omega)
  unfold gT; split <;> omega
/-- The whole table. -/
def ordT (n : Nat) (a : List Pr) : Nat → Nat → Nat := befT n (seqsL n a)
theorem ordT_at {n : Nat} {a : List Pr} (i : Nat) {j : Nat} (hj : j < n) : ordT n a i j = befN n a i j := by
  unfold ordT befT befN
  refine congrArg List.length (List.filter_congr fun p hp => ?_)
  obtain ⟨_, hl, _, hm⟩ := seq_all hp
  have := List.idxOf_lt_length_of_mem ((hm j).2 hj)
  exact decide_eq_decide.2 ⟨fun h => h.1, fun h => ⟨h, by omega⟩⟩
theorem ord_all {n : Nat} {a : List Pr} (h : Cert n a) {i j : Nat} (hi : i < n) (hj : j < n) (hne : i ≠ j) : ((ordT n a i j : Nat) : Int) = cntN n a ↔ rc n a i j := by
  rw [ordT_at i hj, cntN_len h.dg h.ten, ← bef_zero h.dg h.acy hj hi (fun e => hne e.symm)]
  have := bef_both (a := a) hi hj hne
  omega
theorem ord_pos {n : Nat} {a : List Pr} (h : Cert n a) {i j : Nat} (hi : i < n) (hj : j < n) (hne : i ≠ j) : (0 : Int) < ((ordT n a i j : Nat) : Int) ↔ ¬ rc n a j i := by
  rw [ordT_at i hj, ← bef_zero h.dg h.acy hi hj hne]; omega
theorem ord_share {n : Nat} {a : List Pr} (h : Cert n a) {i j : Nat} (hi : i < n) (hj : j < n) (hne : i ≠ j) : ofq ((ordT n a i j : Nat) : Int) (cntN n a) = shQ n a i j := by
  unfold shQ
  rw [cnt_more h.dg h.ten hi hj hne, ordT_at i hj]
theorem seq_getD {n : Nat} {a : List Pr} {k : Nat} (h : k < (seqsL n a).length) : (seqsL n a).getD k [] ∈ seqsL n a := by
  rw [List.getD_eq_getElem?_getD, List.getElem?_eq_getElem h]; exact List.getElem_mem h
theorem rows_at {r : List Rw} {l : List (List Nat)} (h : r.map (·.L) = l.map nI) (k : Nat) : (r.getD k dRw).L = nI (l.getD k []) := by
  have := congrArg (fun x => x[k]?) h
  simp only [List.getElem?_map] at this
  rw [List.getD_eq_getElem?_getD, List.getD_eq_getElem?_getD]
  cases h1 : r[k]? <;> cases h2 : l[k]? <;> rw [h1, h2] at this <;> simp at this ⊢
  · rfl
  · exact this
theorem sh6 (n a b : Int) : a < 0 ∨ (0 ≤ a ∧ n ≤ a) ∨ (0 ≤ a ∧ a < n ∧ b < 0) ∨ (0 ≤ a ∧ a < n ∧ 0 ≤ b ∧ n ≤ b) ∨ ((0 ≤ a ∧ a < n) ∧ (0 ≤ b ∧ b < n) ∧ a = b) ∨ ((0 ≤ a ∧ a < n) ∧ (0 ≤ b ∧ b < n) ∧ ¬ a = b) := by omega
theorem rows_next {r : List Rw} {l : List (List Nat)} {k : Nat} {ad : Option Addr} {c : Nat} (h : r.map (·.L) = (l.take k).map nI) (hk : k < l.length) : (r ++ [(⟨ad, c, nI (l.getD k [])⟩ : Rw)]).map (fun x : Rw => x.L) = (l.take (k + 1)).map nI := by
  rw [List.map_append, h, List.take_add_one, List.map_append, List.getD_eq_getElem?_getD, List.getElem?_eq_getElem hk]; rfl
theorem rows_row {r : List Rw} {l : List (List Nat)} {k : Nat} (h : r.map (·.L) = l.map nI) (hk : k < l.length) : ∃ (ad : Option Addr) (c : Nat), (⟨ad, c, nI (l.getD k [])⟩ : Rw) ∈ r ∧ (rwcells r)[k]? = some (.slice ad (nI (l.getD k [])).length c) := by
  have hl : r.length = l.length := by have := congrArg List.length h; simpa using this
  have hr := rows_at h k
  have hm := rw_mem (l := r) (j := k) (by omega)
  have hg := rwcells_get (l := r) (k := k) (by omega)
  generalize r.getD k dRw = x at hr hm hg
  obtain ⟨ad, c, L⟩ := x
  simp only at hr
  subst hr
  exact ⟨ad, c, hm, hg⟩
theorem getN_mem {p : List Nat} {J : Nat} (h : J < p.length) : p.getD J 0 ∈ p := by
  rw [List.getD_eq_getElem?_getD, List.getElem?_eq_getElem h]; exact List.getElem_mem h
theorem rows_len {r : List Rw} {l : List (List Nat)} (h : r.map (·.L) = l.map nI) : r.length = l.length := by have := congrArg List.length h; simpa using this
/-! ## Away from a half -/
def awy (x y : Int) : Int := if 2 * x - y < y - 2 * x then y - 2 * x else 2 * x - y
theorem off_awy {x c : Nat} (hc : 0 < c) : offQ (ofq (x : Int) (c : Int)) = ofq (awy x c) (2 * (c : Int)) := by
  have hc0 : (c : Rat) ≠ 0 := fun e => by have := Rat.natCast_eq_zero_iff.1 e; omega
  have hcp : (0 : Rat) < (c : Rat) := Rat.natCast_pos.2 hc
  have e1 : ofq (x : Int) (c : Int) - ofq 1 2 = ofq (2 * (x : Int) - c) (2 * (c : Int)) := by
    rw [ofq_eq, ofq_eq, ofq_eq, Rat.intCast_sub, Rat.intCast_mul, Rat.intCast_mul, Rat.intCast_natCast, Rat.intCast_natCast]
    show (x : Rat) / (c : Rat) - 1 / 2 = (2 * (x : Rat) - (c : Rat)) / (2 * (c : Rat))
    grind
  have e2 : sgnQ (ofq (2 * (x : Int) - c) (2 * (c : Int))) < 0 ↔ 2 * (x : Int) - c < 0 := by
    unfold sgnQ
    rw [cmpQ_neg, ofq_eq]
    rw [Rat.div_lt_iff (by rw [Rat.intCast_mul, Rat.intCast_natCast]; exact Rat.mul_pos (by decide) hcp), Rat.zero_mul, show (0 : Rat) = ((0 : Int) : Rat) from rfl, Rat.intCast_lt_intCast]
  unfold offQ
  rw [e1]
  by_cases h : 2 * (x : Int) - c < 0
  · rw [if_pos (e2.2 h)]
    unfold awy
    rw [if_pos (by omega), ofq_eq, ofq_eq, Rat.div_def, Rat.div_def, ← Rat.neg_mul, ← Rat.intCast_neg, Int.neg_sub]
  · rw [if_neg (fun e => h (e2.1 e))]
    unfold awy
    rw [if_neg (by omega)]
theorem off_cmp {x y c : Nat} (hc : 0 < c) : cmpQ (offQ (ofq (x : Int) (c : Int))) (offQ (ofq (y : Int) (c : Int))) < 0 ↔ awy x c < awy y c := by
  have hcp : (0 : Rat) < ((2 * (c : Int) : Int) : Rat) := by
    rw [Rat.intCast_mul, Rat.intCast_natCast]; exact Rat.mul_pos (by decide) (Rat.natCast_pos.2 hc)
  rw [off_awy hc, off_awy hc, cmpQ_neg, ofq_eq, ofq_eq, Rat.div_lt_iff hcp, Rat.div_mul_cancel (fun e => by rw [e] at hcp; exact absurd hcp (by decide)), Rat.intCast_lt_intCast]
theorem bal_in {sh : Pr → Rat} {o : List Pr} : ∀ {i : Nat}, 0 < i → i ≤ o.length → ∃ p, p ∈ o ∧ balS sh o i = (p, some (sh p), some (offQ (sh p)))
  | i + 1, _, hi => by
    rw [balS]
    by_cases c : i = 0 ∨ cmpQ (offQ (sh (o.getD i dP))) (fval (balS sh o i).2.2) < 0
    · rw [if_pos c]; exact ⟨_, getD_mem2 (by omega), rfl⟩
    · rw [if_neg c]
      exact bal_in (by omega) (by omega)
/-- The reference's best pair, so far. -/
def bstP (sh : Pr → Rat) (o : List Pr) (i : Nat) : Pr := if i = 0 then o.getD 0 dP else (balS sh o i).1
theorem bst_in {sh : Pr → Rat} {o : List Pr} (ho : 0 < o.length) {i : Nat} (hi : i ≤ o.length) : bstP sh o i ∈ o := by
  unfold bstP
  by_cases h : i = 0
  · rw [if_pos h]; exact getD_mem2 ho
  · rw [if_neg h]
    obtain ⟨p, h1, h2⟩ := bal_in (sh := sh) (show 0 < i by omega) hi
    rw [h2]; exact h1
theorem bst_step {sh : Pr → Rat} {o : List Pr} {i : Nat} (hi : i < o.length) : bstP sh o (i + 1) = if cmpQ (offQ (sh (o.getD i dP))) (offQ (sh (bstP sh o i))) < 0 then o.getD i dP else bstP sh o i := by
  unfold bstP
  rw [if_neg (Nat.succ_ne_zero i), balS]
  by_cases h : i = 0
  · subst h
    rw [if_pos (.inl rfl), if_pos rfl]; split <;> rfl
  · rw [if_neg h]
    obtain ⟨p, h1, h2⟩ := bal_in (sh := sh) (o := o) (show 0 < i by omega) (by omega)
    rw [h2]
    show (if i = 0 ∨ cmpQ (offQ (sh (o.getD i dP))) (offQ (sh p)) < 0 then _ else _ : Pr × Option Rat × Option Rat).1 = _
    by_cases c : cmpQ (offQ (sh (o.getD i dP))) (offQ (sh p)) < 0
    · rw [if_pos (.inr c), if_pos c]
    · rw [if_neg (fun e => e.elim h c), if_neg c]
theorem bst_end {n : Int} {a : List Pr} (h : 0 < (opnR n a).length) : balF n a = (bstP (fun p => shQ n a p.1 p.2) (opnR n a) (opnR n a).length, some (shQ n a (bstP (fun p => shQ n a p.1 p.2) (opnR n a) (opnR n a).length).1 (bstP (fun p => shQ n a p.1 p.2) (opnR n a) (opnR n a).length).2), (balF n a).2.2) := by
  unfold balF bstP
  rw [if_neg (by omega)]
  obtain ⟨p, h1, h2⟩ := bal_in (sh := fun p => shQ n a p.1 p.2) h (Nat.le_refl _)
  rw [h2]
/-- An open pair's places. -/
theorem opn_at {n : Nat} {a : List Pr} {p : Pr} (h : p ∈ opnR n a) : ∃ i j : Nat, p = ((i : Int), (j : Int)) ∧ i < n ∧ j < n ∧ i ≠ j := by
  obtain ⟨_, h1, h2, h3⟩ := opn_in h
  exact ⟨p.1.toNat, p.2.toNat, Prod.ext (by simp only; omega) (by simp only; omega), by omega, by omega, by omega⟩
theorem ord_off {n : Nat} {a : List Pr} (h : Cert n a) {i j i' j' : Nat} (hi : i < n) (hj : j < n) (hne : i ≠ j) (hi' : i' < n) (hj' : j' < n) (hne' : i' ≠ j') :
    cmpQ (offQ (shQ n a i j)) (offQ (shQ n a i' j')) < 0 ↔ awy ((ordT n a i j : Nat) : Int) (cntN n a) < awy ((ordT n a i' j' : Nat) : Int) (cntN n a) := by
  rw [← ord_share h hi hj hne, ← ord_share h hi' hj' hne', cntN_len h.dg h.ten]
  exact off_cmp (seqs_pos h.dg h.acy)
theorem ordT_le {n : Nat} {a : List Pr} (hn : n ≤ 10) (i j : Nat) : ordT n a i j ≤ 10000000000 := Nat.le_trans (List.length_filter_le _ _) (seqs_le hn)
theorem qs_shO (n : Int) (a : List Pr) (i j : Int) : qs (fval (shO n a i j)) 3 := by
  unfold shO; split
  · exact qs_shQ n a i j
  · exact (qs_small (q := 0) (by decide) (by decide)).mono (by decide)
theorem qs_balO (n : Int) (a : List Pr) : qs (fval (balO n a)) 3 := by
  unfold balO; split
  · exact (bal_qs (sh := fun p => shQ n a p.1 p.2) (fun p => qs_shQ n a p.1 p.2) _).1
  · exact (qs_small (q := 0) (by decide) (by decide)).mono (by decide)
end Go.Fw
