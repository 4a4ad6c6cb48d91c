/- Chapter 40: what its functions compute, in plain lists; slices of triples. No program here. -/
import Derived.Test.YtehoikaiakigfaaDoorFwC
import Derived.Test.YtehoikaiakigfaaDoorTxt
namespace Go.Fw
open Go Go.RowKit Go.Nat9

/-! ## Data -/
def okAt (V W : List Int) (i : Nat) : Prop := -1000000 ≤ V.getD i 0 ∧ V.getD i 0 ≤ 1000000 ∧ 1 ≤ W.getD i 0 ∧ W.getD i 0 ≤ 1000
instance (V W : List Int) (i : Nat) : Decidable (okAt V W i) := by unfold okAt; infer_instance
def okTo (V W : List Int) (n : Nat) : Prop := ∀ i, i < n → okAt V W i
instance (V W : List Int) (n : Nat) : Decidable (okTo V W n) := by unfold okTo; infer_instance
def chk (V W : List Int) : Int := if 24 < V.length ∨ 24 < W.length then 6 else if V.length ≠ W.length then 1 else if okTo V W V.length then 0 else 1
theorem chk_zero {V W : List Int} (h : chk V W = 0) : V.length ≤ 24 ∧ V.length = W.length ∧ okTo V W V.length := by
  unfold chk at h
  split at h
  · cases h
  · split at h
    · cases h
    · split at h
      · rename_i h1 h2 h3; exact ⟨by omega, by omega, h3⟩
      · cases h
theorem chk_ok {V W : List Int} (h1 : V.length ≤ 24) (h2 : V.length = W.length) (h3 : okTo V W V.length) : chk V W = 0 := by
  unfold chk
  rw [if_neg (by omega), if_neg (by omega), if_pos h3]
theorem chk_full {V W : List Int} (h : 24 < V.length ∨ 24 < W.length) : chk V W = 6 := by unfold chk; rw [if_pos h]
theorem chk_len {V W : List Int} (h1 : ¬ (24 < V.length ∨ 24 < W.length)) (h2 : V.length ≠ W.length) : chk V W = 1 := by unfold chk; rw [if_neg h1, if_pos h2]
theorem chk_bad {V W : List Int} (h1 : ¬ (24 < V.length ∨ 24 < W.length)) (h2 : ¬ V.length ≠ W.length) {i : Nat} (hi : i < V.length) (h3 : ¬ okAt V W i) : chk V W = 1 := by
  unfold chk; rw [if_neg h1, if_neg h2, if_neg (fun h => h3 (h i hi))]
theorem okTo.succ {V W : List Int} {n : Nat} (h : okTo V W n) (h1 : okAt V W n) : okTo V W (n + 1) := fun i hi => by
  rcases Nat.lt_or_ge i n with h' | h'
  · exact h i h'
  · rw [show i = n from by omega]; exact h1
theorem okTo_zero (V W : List Int) : okTo V W 0 := fun i hi => absurd hi (Nat.not_lt_zero i)

/-! ## Triples of cells -/
section
variable {α : Type} {f : α → List Value}
theorem flat3_length (hf : ∀ x, (f x).length = 3) : ∀ l : List α, (l.flatMap f).length = l.length * 3
  | [] => rfl
  | x :: l => by rw [List.flatMap_cons, List.length_append, flat3_length hf l, hf, List.length_cons]; omega
theorem flat3_get (hf : ∀ x, (f x).length = 3) : ∀ (l : List α) (j : Nat) (x : α), l[j]? = some x → ∀ m, m < 3 → (l.flatMap f)[j * 3 + m]? = (f x)[m]?
  | [], _, _, h, _, _ => by simp at h
  | y :: l, 0, x, h, m, hm => by
    simp at h
    subst h
    rw [List.flatMap_cons, List.getElem?_append_left (by rw [hf]; omega)]
    congr 1; omega
  | y :: l, j + 1, x, h, m, hm => by
    rw [List.flatMap_cons, List.getElem?_append_right (by rw [hf]; omega), hf]
    rw [show (j + 1) * 3 + m - 3 = j * 3 + m from by omega]
    exact flat3_get hf l j x (by simpa using h) m hm
theorem flat3_getA (hf : ∀ x, (f x).length = 3) {l : List α} {j : Nat} {x : α} (h : l[j]? = some x) (m : Nat) (v : Value) (hv : (f x)[m]? = some v) : (l.flatMap f)[j * 3 + m]? = some v := by
  have hm : m < 3 := by rw [← hf x]; exact (List.getElem?_eq_some_iff.1 hv).1
  rw [flat3_get hf l j x h m hm, hv]
theorem flat3_take (hf : ∀ x, (f x).length = 3) : ∀ (l : List α) (k : Nat), (l.flatMap f).take (k * 3) = (l.take k).flatMap f
  | [], k => by simp
  | x :: l, 0 => by simp
  | x :: l, k + 1 => by
    rw [List.flatMap_cons, List.take_succ_cons, List.flatMap_cons, show (k + 1) * 3 = (f x).length + k * 3 from by rw [hf]; omega, List.take_length_add_append, flat3_take hf l k]
end

/-! ## Blocks -/
structure Blk where
  z : Nat
  s : Int
  w : Int
abbrev bc (b : Blk) : List Value := [.int .i64 (b.z : Int), .int .i64 b.s, .int .i64 b.w]
def bcells (B : List Blk) : List Value := B.flatMap bc
theorem bc_len (b : Blk) : (bc b).length = 3 := rfl
theorem bcells_length (B : List Blk) : (bcells B).length = B.length * 3 := flat3_length bc_len B
theorem bcells_snoc (S : List Blk) (b : Blk) : bcells S.reverse ++ bc b = bcells (b :: S).reverse := by unfold bcells; rw [List.reverse_cons, List.flatMap_append, List.flatMap_cons, List.flatMap_nil, List.append_nil]
theorem bcells_nil : bcells ([] : List Blk).reverse = [] := rfl
theorem rev_top (S : List Blk) (t : Blk) : (t :: S).reverse[S.length]? = some t := by simp
theorem rev_nxt (S : List Blk) (t a : Blk) : (t :: a :: S).reverse[S.length]? = some a := by simp
theorem bcells_topA (S : List Blk) (t : Blk) (m : Nat) (v : Value) (hv : (bc t)[m]? = some v) : (bcells (t :: S).reverse)[S.length * 3 + m]? = some v := flat3_getA bc_len (rev_top S t) m v hv
theorem bcells_nxtA (S : List Blk) (t a : Blk) (m : Nat) (v : Value) (hv : (bc a)[m]? = some v) : (bcells (t :: a :: S).reverse)[S.length * 3 + m]? = some v := flat3_getA bc_len (rev_nxt S t a) m v hv
theorem bcells_short (S : List Blk) (t a : Blk) : (bcells (t :: a :: S).reverse).take (S.length * 3) = bcells S.reverse := by
  unfold bcells
  rw [flat3_take bc_len]
  congr 1
  rw [List.reverse_cons, List.reverse_cons, List.append_assoc, List.take_append_of_le_length (by simp), List.take_of_length_le (by simp)]
def dB : Blk := ⟨0, 0, 0⟩
theorem bcells_getA {B : List Blk} {j : Nat} (h : j < B.length) (m : Nat) (v : Value) (hv : (bc (B.getD j dB))[m]? = some v) : (bcells B)[j * 3 + m]? = some v :=
  flat3_getA bc_len (by rw [List.getD_eq_getElem?_getD, List.getElem?_eq_getElem h]; rfl) m v hv
def mrg (a t : Blk) : Blk := ⟨a.z + t.z, a.s + t.s, a.w + t.w⟩
/-- A block comes onto the blocks before it (the last one first): neighbours are pooled as long as their values do not fall. -/
def pushB : List Blk → Blk → List Blk
  | [], t => [t]
  | a :: S, t => if a.s * t.w ≤ t.s * a.w then pushB S (mrg a t) else t :: a :: S
def at1 (V W : List Int) (k : Nat) : Blk := ⟨1, V.getD k 0 * W.getD k 0, W.getD k 0⟩
/-- the blocks of the first k places, the last one first -/
def blkR (V W : List Int) : Nat → List Blk
  | 0 => []
  | k + 1 => pushB (blkR V W k) (at1 V W k)
def BOk (b : Blk) : Prop := 1 ≤ b.z ∧ -(1000000000 * (b.z : Int)) ≤ b.s ∧ b.s ≤ 1000000000 * (b.z : Int) ∧ (b.z : Int) ≤ b.w ∧ b.w ≤ 1000 * (b.z : Int)
def zsum (S : List Blk) : Nat := (S.map (·.z)).sum
def Bnd (n : Nat) (S : List Blk) : Prop := (∀ b ∈ S, BOk b) ∧ zsum S = n
theorem BOk.mrg {a t : Blk} (h1 : BOk a) (h2 : BOk t) : BOk (mrg a t) := by
  obtain ⟨a1, a2, a3, a4, a5⟩ := h1
  obtain ⟨b1, b2, b3, b4, b5⟩ := h2
  refine ⟨?_, ?_, ?_, ?_, ?_⟩ <;> simp only [Go.Fw.mrg] <;> push_cast <;> omega
theorem Bnd.mrg {n : Nat} {S : List Blk} {t a : Blk} (h : Bnd n (t :: a :: S)) : Bnd n (Go.Fw.mrg a t :: S) := by
  obtain ⟨h1, h2⟩ := h
  refine ⟨fun b hb => ?_, ?_⟩
  · rcases List.mem_cons.1 hb with rfl | hb
    · exact (h1 a (by simp)).mrg (h1 t (by simp))
    · exact h1 b (by simp [hb])
  · rw [← h2]; simp [zsum, Go.Fw.mrg]; omega
theorem Bnd.push {n : Nat} : ∀ {S : List Blk} {t : Blk}, Bnd n (t :: S) → Bnd n (pushB S t)
  | [], t, h => h
  | a :: S, t, h => by
    rw [pushB]
    split
    · exact Bnd.push h.mrg
    · exact h
theorem mul_in {x y A B : Int} (h1 : -A ≤ x) (h2 : x ≤ A) (h3 : 0 ≤ y) (h4 : y ≤ B) (hA : 0 ≤ A) : -(A * B) ≤ x * y ∧ x * y ≤ A * B := by
  have e1 : x * y ≤ A * y := Int.mul_le_mul_of_nonneg_right h2 h3
  have e2 : A * y ≤ A * B := Int.mul_le_mul_of_nonneg_left h4 hA
  have e3 : -A * y ≤ x * y := Int.mul_le_mul_of_nonneg_right h1 h3
  rw [Int.neg_mul] at e3
  exact ⟨by omega, by omega⟩
theorem BOk.one {V W : List Int} {k : Nat} (h : okAt V W k) : BOk (at1 V W k) := by
  obtain ⟨h1, h2, h3, h4⟩ := h
  have := mul_in (A := 1000000) (B := 1000) (by omega) h2 (y := W.getD k 0) (by omega) h4 (by omega)
  refine ⟨?_, ?_, ?_, ?_, ?_⟩ <;> simp only [at1] <;> push_cast <;> omega
theorem Bnd.cons {n : Nat} {S : List Blk} {V W : List Int} {k : Nat} (h : Bnd n S) (h1 : okAt V W k) : Bnd (n + 1) (at1 V W k :: S) := by
  refine ⟨fun b hb => ?_, ?_⟩
  · rcases List.mem_cons.1 hb with rfl | hb
    · exact BOk.one h1
    · exact h.1 b hb
  · have := h.2; simp [zsum, at1] at this ⊢; omega
theorem bnd_blkR {V W : List Int} : ∀ {n : Nat}, okTo V W n → Bnd n (blkR V W n)
  | 0, _ => ⟨fun b hb => (by cases hb), rfl⟩
  | n + 1, h => by
    rw [blkR]
    exact Bnd.push ((bnd_blkR (n := n) (fun i hi => h i (by omega))).cons (h n (by omega)))
theorem zsum_cons (a : Blk) (S : List Blk) : zsum (a :: S) = a.z + zsum S := by simp [zsum]
theorem Bnd.len {n : Nat} : ∀ {S : List Blk}, Bnd n S → S.length ≤ n := by
  intro S h
  have : ∀ S : List Blk, (∀ b ∈ S, BOk b) → S.length ≤ zsum S := by
    intro S
    induction S with
    | nil => intro _; exact Nat.zero_le _
    | cons a S ih =>
      intro h
      have h1 := (h a (by simp)).1
      have h2 := ih (fun b hb => h b (by simp [hb]))
      rw [zsum_cons, List.length_cons]; omega
  rw [← h.2]; exact this S h.1
theorem Bnd.head {n : Nat} {S : List Blk} {t : Blk} (h : Bnd n (t :: S)) (hn : n ≤ 24) : 1 ≤ t.z ∧ t.z ≤ 24 ∧ -24000000000 ≤ t.s ∧ t.s ≤ 24000000000 ∧ 1 ≤ t.w ∧ t.w ≤ 24000 := by
  obtain ⟨a1, a2, a3, a4, a5⟩ := h.1 t (by simp)
  have h2 := h.2
  rw [zsum_cons] at h2
  refine ⟨a1, ?_, ?_, ?_, ?_, ?_⟩ <;> omega
theorem Bnd.tail {n : Nat} {S : List Blk} {t : Blk} (h : Bnd n (t :: S)) (hn : n ≤ 24) : ∃ m, m ≤ 24 ∧ Bnd m S ∧ m + t.z = n := ⟨zsum S, by have := h.2; rw [zsum_cons] at this; omega, ⟨fun b hb => h.1 b (by simp [hb]), rfl⟩, by have := h.2; rw [zsum_cons] at this; omega⟩
theorem Bnd.mem {n : Nat} {S : List Blk} (h : Bnd n S) (hn : n ≤ 24) {b : Blk} (hb : b ∈ S) : 1 ≤ b.z ∧ b.z ≤ 24 ∧ -24000000000 ≤ b.s ∧ b.s ≤ 24000000000 ∧ 1 ≤ b.w ∧ b.w ≤ 24000 := by
  obtain ⟨a1, a2, a3, a4, a5⟩ := h.1 b hb
  have hz : b.z ≤ zsum S := by
    have : ∀ S : List Blk, b ∈ S → b.z ≤ zsum S := by
      intro S
      induction S with
      | nil => intro h; cases h
      | cons a S ih =>
        intro h
        rw [zsum_cons]
        rcases List.mem_cons.1 h with rfl | h
        · omega
        · have := ih h; omega
    exact this S hb
  have h2 := h.2
  refine ⟨a1, ?_, ?_, ?_, ?_, ?_⟩ <;> omega
theorem pushB_end {S : List Blk} {t a : Blk} (h : ¬ a.s * t.w ≤ t.s * a.w) : pushB (a :: S) t = t :: a :: S := by rw [pushB, if_neg h]
theorem pushB_go {S : List Blk} {t a : Blk} (h : a.s * t.w ≤ t.s * a.w) : pushB (a :: S) t = pushB S (mrg a t) := by rw [pushB, if_pos h]
theorem pushB_nil (t : Blk) : pushB [] t = [t] := rfl
/-- products of sums and weights stay small -/
theorem prod_in {x y : Int} (h1 : -24000000000 ≤ x) (h2 : x ≤ 24000000000) (h3 : 1 ≤ y) (h4 : y ≤ 24000) : -9223372036854775808 ≤ x * y ∧ x * y ≤ 9223372036854775807 := by
  have := mul_in (A := 24000000000) (B := 24000) (by omega) h2 (y := y) (by omega) h4 (by omega)
  omega
/-- the blocks in their order -/
def blkL (V W : List Int) : List Blk := (blkR V W V.length).reverse
def BLS (V W : List Int) (v : Value) (φo : List VP) : Prop := ∃ (ad : Option Addr) (c : Nat), v = .slice ad (blkL V W).length c ∧ φo = [vCells ad (bcells (blkL V W))]

/-! ## Lists of fractions -/
/-- a canonical fraction in memory -/
structure Fe where
  ad : Option Addr
  c : Nat
  be : Option Addr
  e : Nat
  q : Rat
abbrev fc (x : Fe) : List Value := [.bool (fneg (some x.q)), .slice x.ad (fnum (some x.q)).length x.c, .slice x.be (fden (some x.q)).length x.e]
def fcells (l : List Fe) : List Value := l.flatMap fc
theorem fc_len (x : Fe) : (fc x).length = 3 := rfl
theorem fcells_length (l : List Fe) : (fcells l).length = l.length * 3 := flat3_length fc_len l
theorem fcells_snoc (l : List Fe) (x : Fe) : fcells l ++ fc x = fcells (l ++ [x]) := by unfold fcells; rw [List.flatMap_append, List.flatMap_cons, List.flatMap_nil, List.append_nil]
def dF : Fe := ⟨none, 0, none, 0, 0⟩
theorem fcells_getA {l : List Fe} {j : Nat} (h : j < l.length) (m : Nat) (v : Value) (hv : (fc (l.getD j dF))[m]? = some v) : (fcells l)[j * 3 + m]? = some v :=
  flat3_getA fc_len (by rw [List.getD_eq_getElem?_getD, List.getElem?_eq_getElem h]; rfl) m v hv
/-- the limbs of all fractions of a list -/
def vFes (l : List Fe) : VP where
  holds X w := ∀ x ∈ l, CellsAt X w x.ad (u32s (fnum (some x.q))) ∧ CellsAt X w x.be (u32s (fden (some x.q)))
  mono _ _ _ _ h _ b c := fun x hx => ⟨(h x hx).1.mono b c, (h x hx).2.mono b c⟩
section
variable {P : Program} {Q : Exit → Act → World → Prop} {w0 : Ctx} {σ σ' : List Res} {φ φ' : List (Bool × VP)} {fr : Fr} {ops : Array Oper} {lo : List Oper} {c : Code}
theorem vFes_nil {w : World} {X : Nat → Prop} : (vFes []).holds X w := fun x hx => by cases hx
theorem JC_fesNil (k : JC P c Q w0 σ ((true, vFes []) :: φ) fr) : JC P c Q w0 σ φ fr := JC_addView (fun _ _ => vFes_nil) k
theorem JE_fesNil {e : Exit} (k : JE Q e w0 σ ((true, vFes []) :: φ) fr) : JE Q e w0 σ φ fr := JE_addView (fun _ _ => vFes_nil) k
theorem JL_fesNil (k : JL P ops Q w0 σ ((true, vFes []) :: φ) lo fr) : JL P ops Q w0 σ φ lo fr := JL_addView (fun _ _ => vFes_nil) k
theorem JL_fesSnoc {f : Bool} {l : List Fe} (x : Fe) (h : (f, vFes l) ∈ φ) (h1 : (f, vCells x.ad (u32s (fnum (some x.q)))) ∈ φ) (h2 : (f, vCells x.be (u32s (fden (some x.q)))) ∈ φ)
    (k : JL P ops Q w0 σ ((f, vFes (l ++ [x])) :: φ) lo fr) : JL P ops Q w0 σ φ lo fr := by
  refine JL_addView (fun w s => ?_) k
  intro y hy
  rcases List.mem_append.1 hy with hy | hy
  · exact s.views _ h y hy
  · rw [List.mem_singleton.1 hy]
    exact ⟨s.views _ h1, s.views _ h2⟩
theorem JL_fesGet {f : Bool} {l : List Fe} (x : Fe) (h : (f, vFes l) ∈ φ) (hx : x ∈ l)
    (k : JL P ops Q w0 σ ((f, vCells x.ad (u32s (fnum (some x.q)))) :: (f, vCells x.be (u32s (fden (some x.q)))) :: φ) lo fr) : JL P ops Q w0 σ φ lo fr := by
  refine JL_addView (p := vCells x.be (u32s (fden (some x.q)))) (f := f) (fun w s => (s.views _ h x hx).2) ?_
  refine JL_addView (p := vCells x.ad (u32s (fnum (some x.q)))) (f := f) (fun w s => ?_) k
  exact (s.views (f, vFes l) (List.mem_cons_of_mem _ h) x hx).1
end
theorem getD_mem {l : List Fe} {j : Nat} (h : j < l.length) : l.getD j dF ∈ l := by
  rw [List.getD_eq_getElem?_getD, List.getElem?_eq_getElem h]; exact List.getElem_mem h
/-- a list of fractions and an error -/
def FRS (R : List Rat) (er : Int) (v : Value) (φo : List VP) : Prop := ∃ (ad : Option Addr) (c : Nat) (l : List Fe), v = .tuple #[.slice ad l.length c, .int .i64 er] ∧ l.map (·.q) = R ∧ φo = [vCells ad (fcells l), vFes l]
/-- a list of numbers and an error -/
def ISE (L : List Int) (er : Int) (v : Value) (φo : List VP) : Prop := ∃ (ad : Option Addr) (c : Nat), v = .tuple #[.slice ad L.length c, .int .i64 er] ∧ φo = [vCells ad (i64s L)]
/-- the fit: each block's value at each of its places -/
def fitB (B : List Blk) : List Rat := B.flatMap fun b => List.replicate b.z (ofq b.s b.w)
def fitL (V W : List Int) : List Rat := if chk V W = 0 then fitB (blkL V W) else []
/-- where the blocks begin -/
def stB (B : List Blk) (j : Nat) : Int := (zsum (B.take j) : Nat)
def begL (V W : List Int) : List Int := if chk V W = 0 then (List.range (blkL V W).length).map (stB (blkL V W)) else []
theorem fitB_take (B : List Blk) (j : Nat) (h : j < B.length) : fitB (B.take (j + 1)) = fitB (B.take j) ++ List.replicate (B.getD j dB).z (ofq (B.getD j dB).s (B.getD j dB).w) := by
  rw [List.take_succ_eq_append_getElem h, fitB, List.flatMap_append, List.flatMap_cons, List.flatMap_nil, List.append_nil, List.getD_eq_getElem?_getD, List.getElem?_eq_getElem h]; rfl
theorem stB_succ (B : List Blk) (j : Nat) (h : j < B.length) : stB B (j + 1) = stB B j + ((B.getD j dB).z : Int) := by
  unfold stB zsum
  rw [List.take_succ_eq_append_getElem h, List.map_append, List.sum_append, List.getD_eq_getElem?_getD, List.getElem?_eq_getElem h]; simp
theorem qs_mean {s w : Int} (h1 : -24000000000 ≤ s) (h2 : s ≤ 24000000000) (h3 : 1 ≤ w) (h4 : w ≤ 24000) : qs (ofq s w) 3 := qs_ofq s w (by omega) (by omega)
theorem bnd_blkL {V W : List Int} (h : chk V W = 0) : Bnd V.length (blkR V W V.length) := bnd_blkR (chk_zero h).2.2
theorem blk_mem {V W : List Int} (h : chk V W = 0) {j : Nat} (hj : j < (blkL V W).length) : 1 ≤ ((blkL V W).getD j dB).z ∧ ((blkL V W).getD j dB).z ≤ 24 ∧ -24000000000 ≤ ((blkL V W).getD j dB).s ∧ ((blkL V W).getD j dB).s ≤ 24000000000 ∧ 1 ≤ ((blkL V W).getD j dB).w ∧ ((blkL V W).getD j dB).w ≤ 24000 := by
  refine (bnd_blkL h).mem (chk_zero h).1 ?_
  rw [List.getD_eq_getElem?_getD, List.getElem?_eq_getElem hj]
  have : (blkL V W)[j] ∈ blkL V W := List.getElem_mem hj
  exact List.mem_reverse.1 this
theorem zsum_app (A B : List Blk) : zsum (A ++ B) = zsum A + zsum B := by simp [zsum]
theorem zsum_rev (A : List Blk) : zsum A.reverse = zsum A := by simp [zsum, List.sum_reverse]
theorem fitB_len : ∀ B : List Blk, (fitB B).length = zsum B
  | [] => rfl
  | b :: B => by rw [fitB, List.flatMap_cons, List.length_append, List.length_replicate, zsum_cons, ← fitB_len B]; rfl
theorem zsum_take (B : List Blk) {j : Nat} (hj : j < B.length) : zsum (B.take j) + (B.getD j dB).z ≤ zsum B := by
  have h : B = B.take (j + 1) ++ B.drop (j + 1) := (List.take_append_drop _ _).symm
  have e : zsum B = zsum (B.take (j + 1)) + zsum (B.drop (j + 1)) := by rw [← zsum_app, ← h]
  rw [e, List.take_succ_eq_append_getElem hj, zsum_app, List.getD_eq_getElem?_getD, List.getElem?_eq_getElem hj]
  simp [zsum]
theorem zsum_blkL {V W : List Int} (h : chk V W = 0) : zsum (blkL V W) = V.length := by rw [blkL, zsum_rev]; exact (bnd_blkL h).2
theorem fit_len {V W : List Int} (h : chk V W = 0) {j : Nat} (hj : j < (blkL V W).length) : (fitB ((blkL V W).take j)).length + ((blkL V W).getD j dB).z ≤ 24 := by
  rw [fitB_len]
  have := zsum_take _ hj
  rw [zsum_blkL h] at this
  have := (chk_zero h).1
  omega
theorem st_len {V W : List Int} (h : chk V W = 0) {j : Nat} (hj : j < (blkL V W).length) : 0 ≤ stB (blkL V W) j ∧ stB (blkL V W) j + (((blkL V W).getD j dB).z : Int) ≤ 24 ∧ j ≤ 24 := by
  have := zsum_take _ hj
  rw [zsum_blkL h] at this
  have h2 := (chk_zero h).1
  have h3 := (bnd_blkL h).len
  have h4 : (blkL V W).length = (blkR V W V.length).length := by rw [blkL, List.length_reverse]
  unfold stB
  refine ⟨by omega, by omega, by omega⟩
section
variable {P : Program} {Q : Exit → Act → World → Prop} {w0 : Ctx} {σ : List Res} {φ : List (Bool × VP)} {fr : Fr}
theorem nilv {w : World} {X : Nat → Prop} : (vCells none []).holds X w := by intro j u hj; simp at hj
theorem JE_nilView2 {e : Exit} (k : JE Q e w0 σ ((true, vCells none (fcells [])) :: (true, vFes []) :: φ) fr) : JE Q e w0 σ φ fr := JE_fesNil (JE_addView (fun _ _ => nilv) k)
theorem JE_nilViewI {e : Exit} (k : JE Q e w0 σ ((true, vCells none (i64s [])) :: φ) fr) : JE Q e w0 σ φ fr := JE_addView (fun _ _ => nilv) k
end
/-! ## Means of places -/
def vsum (V W : List Int) (i : Nat) : Nat → Int
  | 0 => 0
  | k + 1 => vsum V W i k + V.getD (i + k) 0 * W.getD (i + k) 0
def wsum (W : List Int) (i : Nat) : Nat → Int
  | 0 => 0
  | k + 1 => wsum W i k + W.getD (i + k) 0
theorem sums_in {V W : List Int} {n i : Nat} (h : okTo V W n) : ∀ {k : Nat}, i + k ≤ n → -(1000000000 * (k : Int)) ≤ vsum V W i k ∧ vsum V W i k ≤ 1000000000 * (k : Int) ∧ (k : Int) ≤ wsum W i k ∧ wsum W i k ≤ 1000 * (k : Int)
  | 0, _ => ⟨Int.le_refl _, Int.le_refl _, Int.le_refl _, Int.le_refl _⟩
  | k + 1, hk => by
    obtain ⟨h1, h2, h3, h4⟩ := sums_in h (i := i) (k := k) (by omega)
    obtain ⟨a1, a2, a3, a4⟩ := h (i + k) (by omega)
    have := mul_in (A := 1000000) (B := 1000) (by omega) a2 (y := W.getD (i + k) 0) (by omega) a4 (by omega)
    rw [vsum, wsum]
    push_cast
    refine ⟨?_, ?_, ?_, ?_⟩ <;> omega
/-- the weighted mean of the places i to j - 1 -/
def meanq (V W : List Int) (i j : Nat) : Rat := ofq (vsum V W i (j - i)) (wsum W i (j - i))
def poolE (V W : List Int) (i j : Int) : Int := if chk V W ≠ 0 then chk V W else if i < 0 ∨ j ≤ i ∨ (V.length : Int) < j then 2 else 0
def poolO (V W : List Int) (i j : Int) : Option Rat := if poolE V W i j = 0 then some (meanq V W i.toNat j.toNat) else none
theorem poolE_chk {V W : List Int} {i j : Int} (h : chk V W ≠ 0) : poolE V W i j = chk V W := if_pos h
theorem poolE_rng {V W : List Int} {i j : Int} (h : chk V W = 0) (h2 : i < 0 ∨ j ≤ i ∨ (V.length : Int) < j) : poolE V W i j = 2 := by unfold poolE; rw [if_neg (fun h' => h' h), if_pos h2]
theorem poolE_ok {V W : List Int} {i j : Int} (h : chk V W = 0) (h2 : ¬ (i < 0 ∨ j ≤ i ∨ (V.length : Int) < j)) : poolE V W i j = 0 := by unfold poolE; rw [if_neg (fun h' => h' h), if_neg h2]
theorem poolO_none {V W : List Int} {i j : Int} (h : poolE V W i j ≠ 0) : poolO V W i j = none := if_neg h
theorem poolO_some {V W : List Int} {i j : Nat} (h : poolE V W (i : Int) (j : Int) = 0) : poolO V W (i : Int) (j : Int) = some (meanq V W i j) := by unfold poolO; rw [if_pos h]; rfl
theorem qs_meanq {V W : List Int} {i j : Nat} (h : chk V W = 0) (hj : j ≤ V.length) : qs (meanq V W i j) 3 := by
  obtain ⟨hn, _, hok⟩ := chk_zero h
  unfold meanq
  rcases Nat.le_total i j with hij | hij
  · obtain ⟨h1, h2, h3, h4⟩ := sums_in hok (i := i) (k := j - i) (by omega)
    exact qs_ofq _ _ (by omega) (by omega)
  · rw [show j - i = 0 from by omega]; exact qs_ofq _ _ (by rw [vsum]; decide) (by rw [wsum]; decide)
theorem qs_poolO (V W : List Int) (i j : Int) : qs (fval (poolO V W i j)) 3 := by
  unfold poolO
  split
  · rename_i h
    unfold poolE at h
    split at h
    · contradiction
    · rename_i hc
      split at h
      · cases h
      · exact qs_meanq (Classical.byContradiction hc) (by omega)
  · exact qs_zero.mono (by decide)
theorem map_getD (l : List Fe) (j : Nat) : (l.map (·.q)).getD j 0 = (l.getD j dF).q := by
  rw [List.getD_eq_getElem?_getD, List.getD_eq_getElem?_getD, List.getElem?_map]
  cases l[j]? <;> rfl
end Go.Fw

/- Lists of fractions in memory as they come (not reduced); a contract under weaker views. -/
namespace Go.Fw
open Go Go.RowKit Go.Nat9

theorem ConF.views {P : Program} {f : FuncId} {args : List Value} {φ φ' : List VP} {Post : Value → List VP → Prop} (h : ConF P f args φ' Post) (hv : ∀ w, (∀ p ∈ φ, p.holds (fun _ => False) w) → ∀ p ∈ φ', p.holds (fun _ => False) w) : ConF P f args φ Post := fun w hw => h w (hv w hw)
section
variable {α : Type} {f : α → List Value}
theorem setAll3 (cs : List Value) (o : Nat) (a b c : Value) : setAll cs o [a, b, c] = ((cs.set o a).set (o + 1) b).set (o + 2) c := by
  simp only [setAll, updL_set]
theorem flat3_set (hf : ∀ x, (f x).length = 3) : ∀ (l : List α) (j : Nat) (x : α), j < l.length → setAll (l.flatMap f) (j * 3) (f x) = (l.set j x).flatMap f
  | [], _, _, h => absurd h (Nat.not_lt_zero _)
  | y :: l, 0, x, _ => by
    obtain ⟨a, b, c, h1⟩ : ∃ a b c, f x = [a, b, c] := by
      have := hf x
      match f x, this with
      | [a, b, c], _ => exact ⟨a, b, c, rfl⟩
    obtain ⟨a', b', c', h2⟩ : ∃ a b c, f y = [a, b, c] := by
      have := hf y
      match f y, this with
      | [a, b, c], _ => exact ⟨a, b, c, rfl⟩
    rw [List.set_cons_zero, List.flatMap_cons, List.flatMap_cons, h1, h2, setAll3]
    rfl
  | y :: l, j + 1, x, h => by
    obtain ⟨a, b, c, h1⟩ : ∃ a b c, f x = [a, b, c] := by
      have := hf x
      match f x, this with
      | [a, b, c], _ => exact ⟨a, b, c, rfl⟩
    have ih := flat3_set hf l j x (by simpa using h)
    rw [h1, setAll3] at ih
    have e : (j + 1) * 3 = (f y).length + j * 3 := by rw [hf]; omega
    rw [List.set_cons_succ, List.flatMap_cons, List.flatMap_cons, h1, setAll3, ← ih, e]
    rw [List.set_append_right _ _ (by omega), List.set_append_right _ _ (by omega), List.set_append_right _ _ (by omega)]
    simp only [Nat.add_sub_cancel_left, Nat.add_assoc]
end
/-- a fraction in memory, as it comes -/
structure Fi where
  s : Bool
  ad : Option Addr
  n : Nat
  c : Nat
  L : List Nat
  be : Option Addr
  m : Nat
  e : Nat
  M : List Nat
abbrev rc (x : Fi) : List Value := [.bool x.s, .slice x.ad x.n x.c, .slice x.be x.m x.e]
def rcells (l : List Fi) : List Value := l.flatMap rc
theorem rc_len (x : Fi) : (rc x).length = 3 := rfl
theorem rcells_length (l : List Fi) : (rcells l).length = l.length * 3 := flat3_length rc_len l
theorem rcells_snoc (l : List Fi) (x : Fi) : rcells l ++ rc x = rcells (l ++ [x]) := by unfold rcells; rw [List.flatMap_append, List.flatMap_cons, List.flatMap_nil, List.append_nil]
def Fi.q (x : Fi) : Rat := mkq x.s (val x.L) (val x.M)
abbrev Fi.ok (x : Fi) (K : Nat) : Prop := FIn x.s x.n x.L x.m x.M x.q K
abbrev Fi.raw (x : Fi) : Prop := RIn x.n x.L x.m x.M
def dI : Fi := ⟨false, none, 0, 0, [], none, 0, 0, []⟩
theorem fi_mem {l : List Fi} {j : Nat} (h : j < l.length) : l.getD j dI ∈ l := by
  rw [List.getD_eq_getElem?_getD, List.getElem?_eq_getElem h]; exact List.getElem_mem h
theorem rcells_getA {l : List Fi} {j : Nat} (h : j < l.length) (m : Nat) (v : Value) (hv : (rc (l.getD j dI))[m]? = some v) : (rcells l)[j * 3 + m]? = some v :=
  flat3_getA rc_len (by rw [List.getD_eq_getElem?_getD, List.getElem?_eq_getElem h]; rfl) m v hv
theorem rcells_set (l : List Fi) (j : Nat) (x : Fi) (h : j < l.length) : setAll (rcells l) (j * 3) (rc x) = rcells (l.set j x) := flat3_set rc_len l j x h
theorem rcells_one (l : List Fi) : AllOne (rcells l) := by
  intro v hv
  obtain ⟨x, _, hx⟩ := List.mem_flatMap.1 hv
  simp only [rc, List.mem_cons, List.not_mem_nil, or_false] at hx
  rcases hx with rfl | rfl | rfl <;> rfl
theorem Fi.fin {x : Fi} (r : x.raw) (h1 : x.n ≤ 4) (h2 : x.m ≤ 4) : x.ok 4 := r.fin h1 h2
def vFis (l : List Fi) : VP where
  holds X w := ∀ x ∈ l, CellsAt X w x.ad (u32s x.L) ∧ CellsAt X w x.be (u32s x.M)
  mono _ _ _ _ h _ b c := fun x hx => ⟨(h x hx).1.mono b c, (h x hx).2.mono b c⟩
section
variable {P : Program} {Q : Exit → Act → World → Prop} {w0 : Ctx} {σ : List Res} {φ : List (Bool × VP)} {fr : Fr} {ops : Array Oper} {lo : List Oper} {c : Code}
theorem JC_fisGet {f : Bool} {l : List Fi} (x : Fi) (h : (f, vFis l) ∈ φ) (hx : x ∈ l) (k : JC P c Q w0 σ ((f, vCells x.ad (u32s x.L)) :: (f, vCells x.be (u32s x.M)) :: φ) fr) : JC P c Q w0 σ φ fr := by
  refine JC_addView (p := vCells x.be (u32s x.M)) (f := f) (fun w s => (s.views _ h x hx).2) ?_
  refine JC_addView (p := vCells x.ad (u32s x.L)) (f := f) (fun w s => ?_) k
  exact (s.views (f, vFis l) (List.mem_cons_of_mem _ h) x hx).1
theorem JE_fisSub {f : Bool} {l m : List Fi} {e : Exit} (h : (f, vFis l) ∈ φ) (hm : ∀ x ∈ m, x ∈ l) (k : JE Q e w0 σ ((f, vFis m) :: φ) fr) : JE Q e w0 σ φ fr :=
  JE_addView (fun _ s x hx => s.views _ h x (hm x hx)) k
end
/-- a reduced fraction, as it comes -/
def Fe.fi (x : Fe) : Fi := ⟨fneg (some x.q), x.ad, (fnum (some x.q)).length, x.c, fnum (some x.q), x.be, (fden (some x.q)).length, x.e, fden (some x.q)⟩
theorem fcells_fi (l : List Fe) : rcells (l.map Fe.fi) = fcells l := by unfold rcells fcells; rw [List.flatMap_map]; rfl
theorem Fe.fi_ok {x : Fe} {K : Nat} (h : qs x.q K) : FIn x.fi.s x.fi.n x.fi.L x.fi.m x.fi.M x.q K := FIn.some h
theorem Fe.fi_q {x : Fe} {K : Nat} (h : qs x.q K) : x.fi.q = x.q := (FIn.some h).eq
theorem vFes_fi {l : List Fe} {X : Nat → Prop} {w : World} (h : (vFes l).holds X w) : (vFis (l.map Fe.fi)).holds X w := by
  intro x hx
  obtain ⟨y, hy, rfl⟩ := List.mem_map.1 hx
  exact h y hy
theorem fi_getD (l : List Fe) {j : Nat} (h : j < l.length) : (l.map Fe.fi).getD j dI = (l.getD j dF).fi := by
  rw [List.getD_eq_getElem?_getD, List.getElem?_map, List.getElem?_eq_getElem h, List.getD_eq_getElem?_getD, List.getElem?_eq_getElem h]; rfl
def Falls (l : List Fi) : Prop := ∀ i, i < l.length - 1 → (l.getD (i + 1) dI).q ≤ (l.getD i dI).q
instance (l : List Fi) : Decidable (Falls l) := by unfold Falls; infer_instance
theorem Falls.le {l : List Fi} (h : Falls l) : ∀ {i d : Nat}, i + d < l.length → (l.getD (i + d) dI).q ≤ (l.getD i dI).q
  | _, 0, _ => Rat.le_refl
  | i, d + 1, hd => Rat.le_trans (h (i + d) (by omega)) (Falls.le h (by omega))
/-! ## Sorting -/
def SortTo (m : List Fi) (i : Nat) : Prop := ∀ a b, a < b → b < i → (m.getD b dI).q ≤ (m.getD a dI).q
def SortX (m : List Fi) (i k : Nat) : Prop := ∀ a b, a < b → b ≤ i → b ≠ k → (m.getD b dI).q ≤ (m.getD a dI).q
def swp (m : List Fi) (k : Nat) : List Fi := (m.set k (m.getD (k - 1) dI)).set (k - 1) (m.getD k dI)
theorem swp_len (m : List Fi) (k : Nat) : (swp m k).length = m.length := by unfold swp; simp
theorem getD_set (m : List Fi) (i j : Nat) (x : Fi) (h : i < m.length) : (m.set i x).getD j dI = if i = j then x else m.getD j dI := by
  rw [List.getD_eq_getElem?_getD, List.getElem?_set]
  split
  · rfl
  · rw [List.getD_eq_getElem?_getD]
theorem swp_get (m : List Fi) {k : Nat} (h0 : 0 < k) (hk : k < m.length) (j : Nat) : (swp m k).getD j dI = if j = k - 1 then m.getD k dI else if j = k then m.getD (k - 1) dI else m.getD j dI := by
  unfold swp
  rw [getD_set _ _ _ _ (by rw [List.length_set]; omega), getD_set _ _ _ _ hk]
  by_cases h1 : j = k - 1
  · rw [if_pos h1.symm, if_pos h1]
  · rw [if_neg (fun e => h1 e.symm), if_neg h1]
    by_cases h2 : j = k
    · rw [if_pos h2.symm, if_pos h2]
    · rw [if_neg (fun e => h2 e.symm), if_neg h2]
theorem swp_mem {l m : List Fi} (h : ∀ x ∈ m, x ∈ l) {k : Nat} (h0 : 0 < k) (hk : k < m.length) : ∀ x ∈ swp m k, x ∈ l := by
  intro x hx
  unfold swp at hx
  rcases List.mem_or_eq_of_mem_set hx with hx | rfl
  · rcases List.mem_or_eq_of_mem_set hx with hx | rfl
    · exact h x hx
    · exact h _ (fi_mem (by omega))
  · exact h _ (fi_mem hk)
theorem SortX.start {m : List Fi} {i : Nat} (h : SortTo m i) : SortX m i i := fun a b h1 h2 h3 => h a b h1 (by omega)
theorem SortX.step {m : List Fi} {i k : Nat} (h : SortX m i k) (h0 : 0 < k) (hk : k ≤ i) (hi : i < m.length) (hc : (m.getD (k - 1) dI).q < (m.getD k dI).q) : SortX (swp m k) i (k - 1) := by
  intro a b h1 h2 h3
  rw [swp_get m h0 (by omega), swp_get m h0 (by omega), if_neg h3]
  by_cases hb : b = k
  · rw [if_pos hb]
    by_cases ha : a = k - 1
    · rw [if_pos ha]; exact Rat.le_of_lt hc
    · rw [if_neg ha, if_neg (by omega)]; exact h a (k - 1) (by omega) (by omega) (by omega)
  · rw [if_neg hb]
    by_cases ha : a = k - 1
    · rw [if_pos ha]; exact h k b (by omega) h2 hb
    · rw [if_neg ha]
      by_cases ha2 : a = k
      · rw [if_pos ha2]; exact h (k - 1) b (by omega) h2 hb
      · rw [if_neg ha2]; exact h a b h1 h2 hb
theorem SortX.done {m : List Fi} {i k : Nat} (h : SortX m i k) (hc : k = 0 ∨ (m.getD k dI).q ≤ (m.getD (k - 1) dI).q) : SortTo m (i + 1) := by
  intro a b h1 h2
  by_cases hb : b = k
  · subst hb
    rcases hc with hc | hc
    · omega
    · rcases Nat.eq_or_lt_of_le (show a ≤ b - 1 from by omega) with e | e
      · rw [e]; exact hc
      · exact Rat.le_trans hc (h a (b - 1) e (by omega) (by omega))
  · exact h a b h1 (by omega) hb
theorem SortTo.falls {m : List Fi} (h : SortTo m m.length) : Falls m := fun i hi => h i (i + 1) (by omega) (by omega)
end Go.Fw
