/- Lists of spans (pairs of reduced fractions) in memory. -/
import Derived.Test.YtgnljjdcbfijnaaDoorFrL
namespace Go.Fw
open Go Go.RowKit Go.Nat9

structure Se where
  lo : Fe
  hi : Fe
abbrev sc (x : Se) : List Value := [.bool (fneg (some x.lo.q)), .slice x.lo.ad (fnum (some x.lo.q)).length x.lo.c, .slice x.lo.be (fden (some x.lo.q)).length x.lo.e, .bool (fneg (some x.hi.q)), .slice x.hi.ad (fnum (some x.hi.q)).length x.hi.c, .slice x.hi.be (fden (some x.hi.q)).length x.hi.e]
def scells (l : List Se) : List Value := l.flatMap sc
def dS : Se := ⟨dF, dF⟩
def Se.qq (x : Se) : Rat × Rat := (x.lo.q, x.hi.q)
theorem scells_length : ∀ l : List Se, (scells l).length = l.length * 6
  | [] => rfl
  | x :: l => by
    have h := scells_length l
    unfold scells at h ⊢
    rw [List.flatMap_cons, List.length_append, h]
    show 6 + l.length * 6 = (l.length + 1) * 6
    omega
theorem scells_snoc (l : List Se) (x : Se) : scells l ++ sc x = scells (l ++ [x]) := by unfold scells; rw [List.flatMap_append, List.flatMap_cons, List.flatMap_nil, List.append_nil]
theorem scells_cons (x : Se) (l : List Se) : scells (x :: l) = sc x ++ scells l := List.flatMap_cons
theorem scells_get : ∀ (l : List Se) (j m : Nat), j < l.length → m < 6 → (scells l)[j * 6 + m]? = (sc (l.getD j dS))[m]?
  | [], _, _, h, _ => absurd h (Nat.not_lt_zero _)
  | x :: l, 0, m, _, hm => by
    rw [scells_cons, List.getElem?_append_left (by show _ < 6; omega), Nat.zero_mul, Nat.zero_add]; rfl
  | x :: l, j + 1, m, h, hm => by
    rw [scells_cons, List.getElem?_append_right (by show 6 ≤ _; omega), show (j + 1) * 6 + m - (sc x).length = j * 6 + m from by show (j + 1) * 6 + m - 6 = _; omega]
    exact scells_get l j m (by simpa using h) hm
theorem scells_getA {l : List Se} {j : Nat} (h : j < l.length) (m : Nat) (v : Value) (hv : (sc (l.getD j dS))[m]? = some v) : (scells l)[j * 6 + m]? = some v := by
  have hm : m < 6 := (List.getElem?_eq_some_iff.1 hv).1
  rw [scells_get l j m h hm, hv]
theorem scells_loA {l : List Se} {j : Nat} (h : j < l.length) (m : Nat) (v : Value) (hv : (fc (l.getD j dS).lo)[m]? = some v) : (scells l)[j * 6 + 0 + m]? = some v := by
  have hm : m < 3 := (List.getElem?_eq_some_iff.1 hv).1
  rw [Nat.add_zero, scells_get l j m h (by omega), ← hv]
  match m, hm with
  | 0, _ => rfl
  | 1, _ => rfl
  | 2, _ => rfl
theorem scells_hiA {l : List Se} {j : Nat} (h : j < l.length) (m : Nat) (v : Value) (hv : (fc (l.getD j dS).hi)[m]? = some v) : (scells l)[j * 6 + 3 + m]? = some v := by
  have hm : m < 3 := (List.getElem?_eq_some_iff.1 hv).1
  rw [Nat.add_assoc, scells_get l j (3 + m) h (by omega), ← hv]
  match m, hm with
  | 0, _ => rfl
  | 1, _ => rfl
  | 2, _ => rfl
def setHi (l : List Se) (j : Nat) (y : Fe) : List Se := l.set j ⟨(l.getD j dS).lo, y⟩
theorem setHi_len (l : List Se) (j : Nat) (y : Fe) : (setHi l j y).length = l.length := by unfold setHi; simp
theorem scells_setHi : ∀ (l : List Se) (j : Nat) (y : Fe), j < l.length → setAll (scells l) (j * 6 + 3) (fc y) = scells (setHi l j y)
  | [], _, _, h => absurd h (Nat.not_lt_zero _)
  | x :: l, 0, y, _ => by
    unfold setHi
    rw [List.set_cons_zero, scells_cons, scells_cons, setAll3]; rfl
  | x :: l, j + 1, y, h => by
    have ih := scells_setHi l j y (by simpa using h)
    unfold setHi at ih ⊢
    rw [setAll3] at ih
    have e : (j + 1) * 6 + 3 = (sc x).length + (j * 6 + 3) := by show _ = 6 + _; omega
    rw [List.set_cons_succ, scells_cons, scells_cons, setAll3, e]
    rw [show (x :: l).getD (j + 1) dS = l.getD j dS from rfl, ← ih]
    rw [List.set_append_right _ _ (by omega), List.set_append_right _ _ (by omega), List.set_append_right _ _ (by omega)]
    simp only [Nat.add_sub_cancel_left, Nat.add_assoc]
theorem qq_getD (l : List Se) (j : Nat) : (l.map Se.qq).getD j (0, 0) = (l.getD j dS).qq := by
  rw [List.getD_eq_getElem?_getD, List.getD_eq_getElem?_getD, List.getElem?_map]
  cases l[j]? <;> rfl
theorem qq_setHi (l : List Se) (j : Nat) (y : Fe) : (setHi l j y).map Se.qq = (l.map Se.qq).set j (((l.map Se.qq).getD j (0, 0)).1, y.q) := by
  unfold setHi; rw [List.map_set, qq_getD]; rfl
theorem se_mem {l : List Se} {j : Nat} (h : j < l.length) : l.getD j dS ∈ l := by
  rw [List.getD_eq_getElem?_getD, List.getElem?_eq_getElem h]; exact List.getElem_mem h
def vSes (l : List Se) : VP where
  holds X w := ∀ x ∈ l, (CellsAt X w x.lo.ad (u32s (fnum (some x.lo.q))) ∧ CellsAt X w x.lo.be (u32s (fden (some x.lo.q)))) ∧ CellsAt X w x.hi.ad (u32s (fnum (some x.hi.q))) ∧ CellsAt X w x.hi.be (u32s (fden (some x.hi.q)))
  mono _ _ _ _ h _ b c := fun x hx => ⟨⟨(h x hx).1.1.mono b c, (h x hx).1.2.mono b c⟩, (h x hx).2.1.mono b c, (h x hx).2.2.mono b c⟩
section
variable {P : Program} {Q : Exit → Act → World → Prop} {w0 : Ctx} {σ : List Res} {φ : List (Bool × VP)} {fr : Fr} {ops : Array Oper} {lo : List Oper} {c : Code}
theorem JC_sesNil (k : JC P c Q w0 σ ((true, vSes []) :: φ) fr) : JC P c Q w0 σ φ fr := JC_addView (fun _ _ x hx => by cases hx) k
theorem JE_sesNil {e : Exit} (k : JE Q e w0 σ ((true, vCells none (scells [])) :: (true, vSes []) :: φ) fr) : JE Q e w0 σ φ fr := JE_addView (fun _ _ x hx => by cases hx) (JE_addView (fun _ _ => nilv) k)
theorem JL_sesSnoc {f : Bool} {l : List Se} (x : Se) (h : (f, vSes l) ∈ φ) (h1 : (f, vCells x.lo.ad (u32s (fnum (some x.lo.q)))) ∈ φ) (h2 : (f, vCells x.lo.be (u32s (fden (some x.lo.q)))) ∈ φ)
    (h3 : (f, vCells x.hi.ad (u32s (fnum (some x.hi.q)))) ∈ φ) (h4 : (f, vCells x.hi.be (u32s (fden (some x.hi.q)))) ∈ φ) (k : JL P ops Q w0 σ ((f, vSes (l ++ [x])) :: φ) lo fr) : JL P ops Q w0 σ φ lo fr := by
  refine JL_addView (fun w s => ?_) k
  intro y hy
  rcases List.mem_append.1 hy with hy | hy
  · exact s.views _ h y hy
  · rw [List.mem_singleton.1 hy]
    exact ⟨⟨s.views _ h1, s.views _ h2⟩, s.views _ h3, s.views _ h4⟩
theorem JL_sesSet {f : Bool} {l : List Se} {j : Nat} (hj : j < l.length) (y : Fe) (h : (f, vSes l) ∈ φ) (h3 : (f, vCells y.ad (u32s (fnum (some y.q)))) ∈ φ) (h4 : (f, vCells y.be (u32s (fden (some y.q)))) ∈ φ)
    (k : JL P ops Q w0 σ ((f, vSes (setHi l j y)) :: φ) lo fr) : JL P ops Q w0 σ φ lo fr := by
  refine JL_addView (fun w s => ?_) k
  intro x hx
  rcases List.mem_or_eq_of_mem_set hx with hx | rfl
  · exact s.views _ h x hx
  · exact ⟨(s.views _ h _ (se_mem hj)).1, s.views _ h3, s.views _ h4⟩
theorem JC_sesGet {f : Bool} {l : List Se} (x : Se) (h : (f, vSes l) ∈ φ) (hx : x ∈ l)
    (k : JC P c Q w0 σ ((f, vCells x.lo.ad (u32s (fnum (some x.lo.q)))) :: (f, vCells x.lo.be (u32s (fden (some x.lo.q)))) :: (f, vCells x.hi.ad (u32s (fnum (some x.hi.q)))) :: (f, vCells x.hi.be (u32s (fden (some x.hi.q)))) :: φ) fr) : JC P c Q w0 σ φ fr := by
  refine JC_addView (p := vCells x.hi.be (u32s (fden (some x.hi.q)))) (f := f) (fun w s => (s.views _ h x hx).2.2) ?_
  refine JC_addView (p := vCells x.hi.ad (u32s (fnum (some x.hi.q)))) (f := f) (fun w s => (s.views (f, vSes l) (List.mem_cons_of_mem _ h) x hx).2.1) ?_
  refine JC_addView (p := vCells x.lo.be (u32s (fden (some x.lo.q)))) (f := f) (fun w s => (s.views (f, vSes l) (List.mem_cons_of_mem _ (List.mem_cons_of_mem _ h)) x hx).1.2) ?_
  refine JC_addView (p := vCells x.lo.ad (u32s (fnum (some x.lo.q)))) (f := f) (fun w s => ?_) k
  exact (s.views (f, vSes l) (List.mem_cons_of_mem _ (List.mem_cons_of_mem _ (List.mem_cons_of_mem _ h))) x hx).1.1
end
/-- a list of spans and an error -/
def SPS (R : List (Rat × Rat)) (er : Int) (v : Value) (φo : List VP) : Prop := ∃ (ad : Option Addr) (c : Nat) (l : List Se), v = .tuple #[.slice ad l.length c, .int .i64 er] ∧ l.map Se.qq = R ∧ φo = [vCells ad (scells l), vSes l]
end Go.Fw

/- Chapter 38: units that fit weights. Plain. -/
namespace Go.Fw
open Go Go.RowKit Go.Nat9

def wOk (w : Int) : Prop := 1 ≤ w ∧ w ≤ 200000
instance (w : Int) : Decidable (wOk w) := by unfold wOk; infer_instance
def limOk (tol m : Int) : Prop := (0 ≤ tol ∧ tol ≤ 5000) ∧ 1 ≤ m ∧ m ≤ 24
instance (tol m : Int) : Decidable (limOk tol m) := by unfold limOk; infer_instance
def limE (tol m : Int) : Int := if limOk tol m then 0 else 2
theorem limE_ok {tol m : Int} (h : limOk tol m) : limE tol m = 0 := if_pos h
theorem limE_no {tol m : Int} (h : ¬ limOk tol m) : limE tol m = 2 := if_neg h
theorem limE_zero {tol m : Int} : limE tol m = 0 ↔ limOk tol m := by
  constructor
  · intro h; exact Classical.byContradiction fun hc => by rw [limE_no hc] at h; cases h
  · exact limE_ok
def mxo (a : Int) : Int := if a < 1 then 1 else a
theorem mxo_in {a b : Int} (h : a ≤ b) (hb : 1 ≤ b) : 1 ≤ mxo a ∧ mxo a ≤ b := by unfold mxo; split <;> omega
def slo (w tol k : Int) : Rat := ofq (mxo (w - tol)) k
def shi (w tol k : Int) : Rat := ofq (w + tol) k
/-- a span comes onto the spans before it -/
def sstep (S : List (Rat × Rat)) (lo hi : Rat) : List (Rat × Rat) :=
  if S.length ≠ 0 ∧ lo ≤ (S.getD (S.length - 1) (0, 0)).2 then S.set (S.length - 1) ((S.getD (S.length - 1) (0, 0)).1, hi) else S ++ [(lo, hi)]
def spR (w tol m : Int) : Nat → List (Rat × Rat)
  | 0 => []
  | i + 1 => sstep (spR w tol m i) (slo w tol (m - i)) (shi w tol (m - i))
def spE (w tol m : Int) : Int := if wOk w then limE tol m else 1
def spL (w tol m : Int) : List (Rat × Rat) := if spE w tol m = 0 then spR w tol m m.toNat else []
theorem spE_w {w tol m : Int} (h : ¬ wOk w) : spE w tol m = 1 := if_neg h
theorem spE_lim {w tol m : Int} (h : wOk w) : spE w tol m = limE tol m := if_pos h
theorem spL_no {w tol m : Int} (h : spE w tol m ≠ 0) : spL w tol m = [] := if_neg h
theorem spL_ok {w tol m : Int} (h : spE w tol m = 0) : spL w tol m = spR w tol m m.toNat := if_pos h
theorem sstep_new {S : List (Rat × Rat)} {lo hi : Rat} (h : S.length = 0) : sstep S lo hi = S ++ [(lo, hi)] := if_neg (fun e => e.1 h)
theorem sstep_add {S : List (Rat × Rat)} {lo hi : Rat} (h : ¬ lo ≤ (S.getD (S.length - 1) (0, 0)).2) : sstep S lo hi = S ++ [(lo, hi)] := if_neg (fun e => h e.2)
theorem sstep_set {S : List (Rat × Rat)} {lo hi : Rat} (h0 : S.length ≠ 0) (h : lo ≤ (S.getD (S.length - 1) (0, 0)).2) : sstep S lo hi = S.set (S.length - 1) ((S.getD (S.length - 1) (0, 0)).1, hi) := if_pos ⟨h0, h⟩
theorem sstep_len (S : List (Rat × Rat)) (lo hi : Rat) : (sstep S lo hi).length ≤ S.length + 1 := by unfold sstep; split <;> simp
theorem spR_len (w tol m : Int) : ∀ i, (spR w tol m i).length ≤ i
  | 0 => Nat.le_refl _
  | i + 1 => by have := spR_len w tol m i; have := sstep_len (spR w tol m i) (slo w tol (m - i)) (shi w tol (m - i)); rw [spR]; omega
theorem qs_slo {w tol k : Int} (h : wOk w) (ht : 0 ≤ tol) (hk : 1 ≤ k ∧ k ≤ 24) : qs (slo w tol k) 3 := by
  obtain ⟨h1, h2⟩ := h
  have := mxo_in (a := w - tol) (b := 200000) (by omega) (by omega)
  exact qs_ofq _ _ (by omega) (by omega)
theorem qs_shi {w tol k : Int} (h : wOk w) (ht : 0 ≤ tol ∧ tol ≤ 5000) (hk : 1 ≤ k ∧ k ≤ 24) : qs (shi w tol k) 3 := by
  obtain ⟨h1, h2⟩ := h
  exact qs_ofq _ _ (by omega) (by omega)
def QS3 (S : List (Rat × Rat)) : Prop := ∀ j, qs (S.getD j (0, 0)).1 3 ∧ qs (S.getD j (0, 0)).2 3
theorem QS3.nil : QS3 [] := fun _ => ⟨qs_zero.mono (by decide), qs_zero.mono (by decide)⟩
theorem getD_snocP (S : List (Rat × Rat)) (x : Rat × Rat) (j : Nat) : (S ++ [x]).getD j (0, 0) = if j < S.length then S.getD j (0, 0) else if j = S.length then x else (0, 0) := by
  rw [List.getD_eq_getElem?_getD]
  by_cases h : j < S.length
  · rw [if_pos h, List.getElem?_append_left h, List.getD_eq_getElem?_getD]
  · rw [if_neg h, List.getElem?_append_right (by omega)]
    by_cases h2 : j = S.length
    · subst h2; simp
    · rw [if_neg h2, List.getElem?_eq_none (by simp; omega)]; rfl
theorem getD_setP (S : List (Rat × Rat)) (i j : Nat) (x : Rat × Rat) (h : i < S.length) : (S.set i x).getD j (0, 0) = if i = j then x else S.getD j (0, 0) := by
  rw [List.getD_eq_getElem?_getD, List.getElem?_set]
  split
  · rfl
  · rw [List.getD_eq_getElem?_getD]
theorem QS3.step {S : List (Rat × Rat)} (h : QS3 S) {lo hi : Rat} (h1 : qs lo 3) (h2 : qs hi 3) : QS3 (sstep S lo hi) := by
  intro j
  unfold sstep
  split
  · rename_i hc
    rw [getD_setP _ _ _ _ (by omega)]
    split
    · exact ⟨(h _).1, h2⟩
    · exact h j
  · rw [getD_snocP]
    split
    · exact h j
    · split
      · exact ⟨h1, h2⟩
      · exact ⟨qs_zero.mono (by decide), qs_zero.mono (by decide)⟩
theorem qs_spR {w tol m : Int} (h : wOk w) (hl : limOk tol m) : ∀ {i : Nat}, i ≤ m.toNat → QS3 (spR w tol m i)
  | 0, _ => QS3.nil
  | i + 1, hi => by
    obtain ⟨ht, h1, h2⟩ := hl
    exact (qs_spR h ⟨ht, h1, h2⟩ (i := i) (by omega)).step (qs_slo h ht.1 ⟨by omega, by omega⟩) (qs_shi h ht ⟨by omega, by omega⟩)
theorem qs_spL (w tol m : Int) : QS3 (spL w tol m) := by
  by_cases h : spE w tol m = 0
  · rw [spL_ok h]
    by_cases hw : wOk w
    · rw [spE_lim hw] at h
      exact qs_spR hw (limE_zero.1 h) (Nat.le_refl _)
    · rw [spE_w hw] at h; cases h
  · rw [spL_no h]; exact QS3.nil
theorem se_qs {l : List Se} {S : List (Rat × Rat)} (hl : l.map Se.qq = S) (h : QS3 S) (j : Nat) : qs (l.getD j dS).lo.q 3 ∧ qs (l.getD j dS).hi.q 3 := by
  have := h j
  rw [← hl, qq_getD] at this
  exact this
theorem spL_len (w tol m : Int) : (spL w tol m).length ≤ 24 := by
  by_cases h : spE w tol m = 0
  · rw [spL_ok h]
    have h1 := spR_len w tol m m.toNat
    by_cases hw : wOk w
    · rw [spE_lim hw] at h
      obtain ⟨_, h2, h3⟩ := limE_zero.1 h
      omega
    · rw [spE_w hw] at h; cases h
  · rw [spL_no h]; exact Nat.zero_le _
theorem sgn_pos {q : Rat} : 0 < sgnQ q ↔ 0 < q := cmpQ_pos
/-- whether a number is in one of some spans -/
def inS (S : List (Rat × Rat)) (q : Rat) : Bool := S.any fun x => decide (x.1 ≤ q ∧ q ≤ x.2)
theorem inS_range (l : List Se) (q : Rat) : inS (l.map Se.qq) q = (List.range l.length).any fun k => decide ((l.getD k dS).lo.q ≤ q ∧ q ≤ (l.getD k dS).hi.q) := by
  have e : l.map Se.qq = (List.range l.length).map fun k => (l.getD k dS).qq := by
    refine List.ext_getElem? fun k => ?_
    rw [List.getElem?_map, List.getElem?_map]
    rcases Nat.lt_or_ge k l.length with hk | hk
    · rw [List.getElem?_range hk, List.getElem?_eq_getElem hk, Option.map_some, Option.map_some, List.getD_eq_getElem?_getD, List.getElem?_eq_getElem hk]; rfl
    · rw [List.getElem?_eq_none hk, List.getElem?_eq_none (by simpa using hk)]; rfl
  rw [e, inS, List.any_map]
  rfl
def fits38 (w : Int) (q : Rat) (tol m : Int) : Bool := decide (spE w tol m = 0 ∧ 0 < q) && inS (spL w tol m) q
theorem fits38_no {w tol m : Int} {q : Rat} (h : spE w tol m ≠ 0 ∨ ¬ 0 < q) : fits38 w q tol m = false := by
  unfold fits38
  rw [decide_eq_false (fun e => h.elim (fun h => h e.1) (fun h => h e.2))]; rfl
theorem fits38_ok {w tol m : Int} {q : Rat} (h : spE w tol m = 0) (h2 : 0 < q) : fits38 w q tol m = inS (spL w tol m) q := by
  unfold fits38
  rw [decide_eq_true ⟨h, h2⟩]; rfl
end Go.Fw

/- Chapter 38: the nearest multiple. Plain. -/
namespace Go.Fw
open Go Go.RowKit Go.Nat9

def absq (q : Rat) : Rat := if q < 0 then -q else q
theorem sgn_neg {q : Rat} : sgnQ q < 0 ↔ q < 0 := cmpQ_neg
theorem absq_neg {q : Rat} (h : sgnQ q < 0) : absq q = -q := if_pos (sgn_neg.1 h)
theorem absq_pos {q : Rat} (h : ¬ sgnQ q < 0) : absq q = q := if_neg (fun e => h (sgn_neg.2 e))
theorem qs_absq {q : Rat} {K : Nat} (h : qs q K) : qs (absq q) K := by
  unfold absq
  split
  · exact h.neg
  · exact h
def mulX (w : Int) (u : Rat) (i : Nat) : Rat := ofq w 1 - ofq ((i + 2 : Nat) : Int) 1 * u
def mulR (w : Int) (u : Rat) : Nat → Int × Rat
  | 0 => (1, ofq w 1 - u)
  | i + 1 => if absq (mulX w u i) < absq (mulR w u i).2 then (((i + 2 : Nat) : Int), mulX w u i) else mulR w u i
def mulE (w : Int) (u : Rat) (m : Int) : Int := if wOk w ∧ 0 < u then limE 0 m else 1
def mulK (w : Int) (u : Rat) (m : Int) : Int := if mulE w u m = 0 then (mulR w u (m.toNat - 1)).1 else 0
def mulO (w : Int) (u : Rat) (m : Int) : Option Rat := if mulE w u m = 0 then some (mulR w u (m.toNat - 1)).2 else none
theorem mulE_no {w : Int} {u : Rat} {m : Int} (h : ¬ wOk w ∨ ¬ 0 < u) : mulE w u m = 1 := if_neg (fun e => h.elim (fun h => h e.1) (fun h => h e.2))
theorem mulE_lim {w : Int} {u : Rat} {m : Int} (h : wOk w) (h2 : 0 < u) : mulE w u m = limE 0 m := if_pos ⟨h, h2⟩
theorem mulK_no {w : Int} {u : Rat} {m : Int} (h : mulE w u m ≠ 0) : mulK w u m = 0 := if_neg h
theorem mulO_no {w : Int} {u : Rat} {m : Int} (h : mulE w u m ≠ 0) : mulO w u m = none := if_neg h
theorem mulK_ok {w : Int} {u : Rat} {m : Int} (h : mulE w u m = 0) : mulK w u m = (mulR w u (m.toNat - 1)).1 := if_pos h
theorem mulO_ok {w : Int} {u : Rat} {m : Int} (h : mulE w u m = 0) : mulO w u m = some (mulR w u (m.toNat - 1)).2 := if_pos h
/-- a number, a fraction and an error -/
def MUL (k : Int) (o : Option Rat) (er : Int) (v : Value) (φo : List VP) : Prop := ∃ (ad : Option Addr) (c : Nat) (be : Option Addr) (e : Nat),
  v = .tuple #[.int .i64 k, .agg #[.bool (fneg o), .slice ad (fnum o).length c, .slice be (fden o).length e], .int .i64 er] ∧ φo = [vCells ad (u32s (fnum o)), vCells be (u32s (fden o))]
theorem qs_ofi {n : Int} (h : n.natAbs < 1000000000 ^ 3) : qs (ofq n 1) 3 := qs_ofq n 1 h (by decide)
theorem qs_mulX {w : Int} {u : Rat} (hw : wOk w) (hu : qs u 5) {i : Nat} (hi : i ≤ 24) : qs (mulX w u i) 12 := by
  obtain ⟨h1, h2⟩ := hw
  exact (qs_ofi (n := w) (by omega)).sub ((qs_ofi (n := ((i + 2 : Nat) : Int)) (by omega)).mul hu (Nat.le_refl 8)) (by decide)
theorem qs_mulR {w : Int} {u : Rat} (hw : wOk w) (hu : qs u 5) : ∀ {i : Nat}, i ≤ 24 → qs (mulR w u i).2 12
  | 0, _ => by obtain ⟨h1, h2⟩ := hw; exact (qs_ofi (n := w) (by omega)).sub hu (by decide)
  | i + 1, hi => by
    rw [mulR]
    split
    · exact qs_mulX hw hu (by omega)
    · exact qs_mulR hw hu (by omega)
theorem qs_mulO {w : Int} {u : Rat} {m : Int} (hu : qs u 5) : qs (fval (mulO w u m)) 12 := by
  by_cases h : mulE w u m = 0
  · rw [mulO_ok h]
    by_cases h2 : wOk w ∧ 0 < u
    · rw [mulE_lim h2.1 h2.2] at h
      exact qs_mulR h2.1 hu (by have := (limE_zero.1 h).2.2; omega)
    · rw [mulE, if_neg h2] at h; cases h
  · rw [mulO_no h]; exact qs_zero.mono (by decide)
theorem mulR_pick {w : Int} {u : Rat} {i : Nat} {k : Int} {q : Rat} (h : mulR w u i = (k, q)) (hc : absq (mulX w u i) < absq q) : mulR w u (i + 1) = (((i + 2 : Nat) : Int), mulX w u i) := by rw [mulR, h, if_pos hc]
theorem mulR_hold {w : Int} {u : Rat} {i : Nat} {k : Int} {q : Rat} (h : mulR w u i = (k, q)) (hc : ¬ absq (mulX w u i) < absq q) : mulR w u (i + 1) = (k, q) := by rw [mulR, h, if_neg hc]
section
variable {P : Program} {Q : Exit → Act → World → Prop} {w0 : Ctx} {σ : List Res} {φ : List (Bool × VP)} {fr : Fr} {ops : Array Oper} {lo : List Oper}
theorem JL_sesGet {f : Bool} {l : List Se} (x : Se) (h : (f, vSes l) ∈ φ) (hx : x ∈ l)
    (k : JL P ops Q w0 σ ((f, vCells x.lo.ad (u32s (fnum (some x.lo.q)))) :: (f, vCells x.lo.be (u32s (fden (some x.lo.q)))) :: (f, vCells x.hi.ad (u32s (fnum (some x.hi.q)))) :: (f, vCells x.hi.be (u32s (fden (some x.hi.q)))) :: φ) lo fr) : JL P ops Q w0 σ φ lo fr := by
  refine JL_addView (p := vCells x.hi.be (u32s (fden (some x.hi.q)))) (f := f) (fun w s => (s.views _ h x hx).2.2) ?_
  refine JL_addView (p := vCells x.hi.ad (u32s (fnum (some x.hi.q)))) (f := f) (fun w s => (s.views (f, vSes l) (List.mem_cons_of_mem _ h) x hx).2.1) ?_
  refine JL_addView (p := vCells x.lo.be (u32s (fden (some x.lo.q)))) (f := f) (fun w s => (s.views (f, vSes l) (List.mem_cons_of_mem _ (List.mem_cons_of_mem _ h)) x hx).1.2) ?_
  refine JL_addView (p := vCells x.lo.ad (u32s (fnum (some x.lo.q)))) (f := f) (fun w s => ?_) k
  exact (s.views (f, vSes l) (List.mem_cons_of_mem _ (List.mem_cons_of_mem _ (List.mem_cons_of_mem _ h))) x hx).1.1
end
end Go.Fw
