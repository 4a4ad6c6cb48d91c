/- Chapter 28: the reference's trees: nodes as values whose kids lie in memory; the data of PqV without blocks. -/
import Derived.Test.YtjkbamfcoiikmaaGreatDoorPqKM
import Derived.Test.YtjkbamfcoiikmaaGreatDoorFwXY
namespace Go.Fw.Pq
open Go Go.RowKit Go.Fw
def AT.col : AT → Nat
  | .mk _ n _ _ _ _ => n
def AT.line : AT → Bool
  | .mk _ _ q _ _ _ => q
def AT.kad : AT → Option Addr
  | .mk _ _ _ ad _ _ => ad
def AT.kcap : AT → Nat
  | .mk _ _ _ _ cap _ => cap
def AT.kids : AT → List AT
  | .mk _ _ _ _ _ ks => ks
def kdI (q : Bool) (n : Nat) : Int := if n = 0 then 0 else if q then 2 else 1
abbrev AT.kind (t : AT) : Int := kdI t.line t.kids.length
def nc (t : AT) : List Value := [.int .i64 t.kind, .int .i64 (t.col : Nat), .slice t.kad t.kids.length t.kcap]
abbrev nval (t : AT) : Value := .agg #[.int .i64 t.kind, .int .i64 (t.col : Nat), .slice t.kad t.kids.length t.kcap]
abbrev ncL (l : List AT) : List Value := fcl nc l
theorem nc_len (t : AT) : (nc t).length = 3 := rfl
theorem nc_one (t : AT) : AllOne (nc t) := fun v hv => by
  simp only [nc, List.mem_cons, List.not_mem_nil, or_false] at hv
  rcases hv with rfl | rfl | rfl <;> rfl
theorem ncL_one (l : List AT) : AllOne (ncL l) := allOne_fcl nc_one l
theorem ncL_len (l : List AT) : (ncL l).length = l.length * 3 := fcl_len nc_len l
theorem ncL_app (l m : List AT) : ncL l ++ ncL m = ncL (l ++ m) := (fcl_app l m).symm
theorem ncL_snoc (l : List AT) (t : AT) : ncL l ++ nc t = ncL (l ++ [t]) := fcl_snoc l t
theorem ncL_getA {l : List AT} {j : Nat} (h : j < l.length) (m : Nat) (v : Value) (hv : (nc (l.getD j default))[m]? = some v) : (ncL l)[j * 3 + m]? = some v := fcl_getA nc_len h m v hv
theorem ncL_set (m : List AT) (i : Nat) (x : AT) (h : i < m.length) : setAll (ncL m) (i * 3) (nc x) = ncL (m.set i x) := by
  simp only [setAll, nc, updL_set]
  induction m generalizing i with
  | nil => simp at h
  | cons y m ih =>
    cases i with
    | zero => rfl
    | succ i =>
      rw [List.set_cons_succ]
      show _ = nc y ++ ncL (m.set i x)
      rw [← ih i (by simpa using h)]
      show List.set (List.set (List.set (nc y ++ ncL m) _ _) _ _) _ _ = _
      rw [show (i + 1) * 3 = i * 3 + 3 from by omega]
      rfl
theorem load3 {a b c d : Value} (m : Nat) (v : Value) (h : [b, c, d][m]? = some v) : [a, b, c, d][1 + m]? = some v := by
  rw [Nat.add_comm]; exact h
theorem kd_zero {q : Bool} {n : Nat} : kdI q n = 0 ↔ n = 0 := by
  unfold kdI; split
  · rename_i h; exact ⟨fun _ => h, fun _ => rfl⟩
  · rename_i h; split <;> exact ⟨fun e => absurd e (by decide), fun e => absurd e h⟩
theorem kd_one {q : Bool} {n : Nat} : kdI q n = 1 ↔ n ≠ 0 ∧ q = false := by
  unfold kdI; cases q <;> by_cases h : n = 0 <;> simp [h]
theorem kd_two {q : Bool} {n : Nat} : kdI q n = 2 ↔ n ≠ 0 ∧ q = true := by
  unfold kdI; cases q <;> by_cases h : n = 0 <;> simp [h]
theorem er_lf {t : AT} (h : t.kids.length = 0) : er t = .leaf t.col := by
  match t, h with
  | .mk _ _ _ _ _ [], _ => rfl
theorem er_kn {t : AT} (h : t.kids.length ≠ 0) : er t = .nd t.line (t.kids.map er) := by
  match t, h with
  | .mk _ _ _ _ _ (_ :: _), _ => exact er_nd (List.cons_ne_nil _ _)
theorem AT.indP {p : AT → Prop} (h : ∀ t, (∀ k ∈ t.kids, p k) → p t) (t : AT) : p t := AT.ind (p := p) (fun _ _ _ _ _ _ ih => h _ ih) t
theorem fitK {t : AT} (h : Fit t) : ∀ k ∈ t.kids, Fit k := by cases t; exact h.kids
theorem fitC {t : AT} (h : Fit t) : t.kids.length ≤ t.kcap := by cases t; exact h.cap
theorem fitL {t : AT} (h : Fit t) : t.kids.length ≤ 1000 := by cases t; exact h.len
theorem fit2 {t : AT} (h : Fit t) (h0 : t.kids.length ≠ 0) : 2 ≤ t.kids.length := by
  cases h with
  | mk _ _ _ _ _ _ _ _ h3 _ _ => exact h3 fun e => h0 (by subst e; rfl)
theorem fit3 {t : AT} (h : Fit t) (h0 : t.line = true) : 3 ≤ t.kids.length := by
  cases h with
  | mk _ _ _ _ _ _ _ _ _ h4 _ => exact h4 h0
theorem kids_ne {t : AT} (h : t.kids.length ≠ 0) : t.kids ≠ [] := fun e => h (by rw [e]; rfl)
theorem nA_kn {t : AT} (h : t.kids.length ≠ 0) : (lvs (er t)).length = nA t.kids := by rw [er_kn h, lvs_nd]; rfl
mutual
def AT.hld (X : Nat → Prop) (w : World) : AT → Prop
  | .mk _ _ _ ad _ ks => CellsAt X w ad (ncL ks) ∧ AT.hldL X w ks
def AT.hldL (X : Nat → Prop) (w : World) : List AT → Prop
  | [] => True
  | k :: ks => AT.hld X w k ∧ AT.hldL X w ks
end
theorem AT.hldL_iff {X : Nat → Prop} {w : World} : ∀ {ks : List AT}, AT.hldL X w ks ↔ ∀ k ∈ ks, AT.hld X w k
  | [] => by simp [AT.hldL]
  | k :: ks => by rw [AT.hldL, AT.hldL_iff]; simp
theorem AT.hld_iff {X : Nat → Prop} {w : World} {t : AT} : AT.hld X w t ↔ CellsAt X w t.kad (ncL t.kids) ∧ ∀ k ∈ t.kids, AT.hld X w k := by
  cases t; rw [AT.hld, AT.hldL_iff]; rfl
theorem AT.hld_mono {X X' : Nat → Prop} {w w' : World} (hb : ∀ k, k < w.heap.size → ¬ X k → w'.heap[k]? = w.heap[k]?) (hx : ∀ k, k < w.heap.size → X' k → X k) (t : AT) : AT.hld X w t → AT.hld X' w' t := by
  induction t using AT.indP with
  | h t ih =>
    rw [AT.hld_iff, AT.hld_iff]
    rintro ⟨h1, h2⟩
    exact ⟨h1.mono hb hx, fun k hk => ih k hk (h2 k hk)⟩
def vN (t : AT) : VP := ⟨fun X w => AT.hld X w t, fun _ _ _ _ h _ b c => AT.hld_mono b c t h⟩
def vNs (l : List AT) : VP := ⟨fun X w => ∀ k ∈ l, AT.hld X w k, fun _ _ _ _ h _ b c k hk => AT.hld_mono b c k (h k hk)⟩
/-- The columns of a row. -/
def inI (R : List Int) (n : Nat) : Bool := decide ((n : Int) ∈ R)
/-- A new node. -/
abbrev nw (n : Nat) (q : Bool) (ad : Option Addr) (c : Nat) (ks : List AT) : AT := .mk 0 n q ad c ks
theorem conN1 {P : Program} {f : FuncId} {args : List Value} {v0 : VP} {t : AT} {l : List AT} {Post : Value → List VP → Prop} (h : ConF P f args [v0, vN t] Post) (ht : t ∈ l) : ConF P f args [v0, vNs l] Post := fun w hw => h w fun p hp => by
  rcases List.mem_cons.1 hp with rfl | hp
  · exact hw _ List.mem_cons_self
  · rw [List.mem_singleton.1 hp]
    exact hw (vNs l) (List.mem_cons_of_mem _ List.mem_cons_self) t ht
theorem conN0 {P : Program} {f : FuncId} {args : List Value} {t : AT} {l : List AT} {Post : Value → List VP → Prop} (h : ConF P f args [vN t] Post) (ht : t ∈ l) : ConF P f args [vNs l] Post := fun w hw => h w fun p hp => by
  rw [List.mem_singleton.1 hp]
  exact hw (vNs l) List.mem_cons_self t ht
theorem conNA {P : Program} {f : FuncId} {args : List Value} {v0 : VP} {t : AT} {l : List AT} {Post : Value → List VP → Prop} (h : ConA P f args [v0, vN t] Post) (ht : t ∈ l) : ConA P f args [v0, vNs l] Post := fun w X hX hw => h w X hX fun p hp => by
  rcases List.mem_cons.1 hp with rfl | hp
  · exact hw _ List.mem_cons_self
  · rw [List.mem_singleton.1 hp]
    exact hw (vNs l) (List.mem_cons_of_mem _ List.mem_cons_self) t ht
theorem conNA0 {P : Program} {f : FuncId} {args : List Value} {t : AT} {l : List AT} {Post : Value → List VP → Prop} (h : ConA P f args [vN t] Post) (ht : t ∈ l) : ConA P f args [vNs l] Post := fun w X hX hw => h w X hX fun p hp => by
  rw [List.mem_singleton.1 hp]
  exact hw (vNs l) List.mem_cons_self t ht
section
variable {P : Program} {Q : Exit → Act → World → Prop} {w0 : Ctx} {σ : List Res} {φ : List (Bool × VP)} {fr : Go.Fw.Fr} {ops : Array Oper} {lo : List Oper} {c : Code}
  {f : Bool} {n : Nat} {q : Bool} {ad : Option Addr} {cap : Nat} {ks : List AT} {t : AT}
theorem JC_nOpen (h : (f, vN t) ∈ φ) (k : JC P c Q w0 σ ((f, vCells t.kad (ncL t.kids)) :: (f, vNs t.kids) :: φ) fr) : JC P c Q w0 σ φ fr := by
  refine JC_addView (p := vNs t.kids) (f := f) (fun w s => (AT.hld_iff.1 (s.views _ h)).2) ?_
  exact JC_addView (p := vCells t.kad (ncL t.kids)) (f := f) (fun w s => (AT.hld_iff.1 (s.views _ (List.mem_cons_of_mem _ h))).1) k
theorem JE_nGet {e : Exit} {l : List AT} (t : AT) (h : (f, vNs l) ∈ φ) (ht : t ∈ l) (k : JE Q e w0 σ ((f, vN t) :: φ) fr) : JE Q e w0 σ φ fr := JE_addView (p := vN t) (f := f) (fun _ s => s.views _ h t ht) k
theorem JC_nNil (k : JC P c Q w0 σ ((true, vNs []) :: φ) fr) : JC P c Q w0 σ φ fr := JC_addView (p := vNs []) (f := true) (fun _ _ _ hx => by cases hx) k
theorem JL_nNil (k : JL P ops Q w0 σ ((true, vNs []) :: φ) lo fr) : JL P ops Q w0 σ φ lo fr := JL_addView (p := vNs []) (f := true) (fun _ _ _ hx => by cases hx) k
theorem JE_nNil {e : Exit} (k : JE Q e w0 σ ((true, vNs []) :: φ) fr) : JE Q e w0 σ φ fr := JE_addView (p := vNs []) (f := true) (fun _ _ _ hx => by cases hx) k
theorem JL_nSub {l m : List AT} (h : (f, vNs l) ∈ φ) (hm : ∀ x ∈ m, x ∈ l) (k : JL P ops Q w0 σ ((f, vNs m) :: φ) lo fr) : JL P ops Q w0 σ φ lo fr := JL_addView (p := vNs m) (f := f) (fun _ s x hx => s.views _ h x (hm x hx)) k
theorem JL_nSnoc {l : List AT} (t : AT) (h : (f, vNs l) ∈ φ) (ht : (f, vN t) ∈ φ) (k : JL P ops Q w0 σ ((f, vNs (l ++ [t])) :: φ) lo fr) : JL P ops Q w0 σ φ lo fr :=
  JL_addView (p := vNs (l ++ [t])) (f := f) (fun _ s x hx => by
    rcases List.mem_append.1 hx with hx | hx
    · exact s.views _ h x hx
    · rw [List.mem_singleton.1 hx]; exact s.views _ ht) k
theorem JL_nApp {l m : List AT} (h : (f, vNs l) ∈ φ) (hm : (f, vNs m) ∈ φ) (k : JL P ops Q w0 σ ((f, vNs (l ++ m)) :: φ) lo fr) : JL P ops Q w0 σ φ lo fr :=
  JL_addView (p := vNs (l ++ m)) (f := f) (fun _ s x hx => by
    rcases List.mem_append.1 hx with hx | hx
    · exact s.views _ h x hx
    · exact s.views _ hm x hx) k
theorem JL_nOne {t : AT} (h : (f, vN t) ∈ φ) (k : JL P ops Q w0 σ ((f, vNs [t]) :: φ) lo fr) : JL P ops Q w0 σ φ lo fr := JL_addView (p := vNs [t]) (f := f) (fun _ s x hx => by rw [List.mem_singleton.1 hx]; exact s.views _ h) k
theorem JE_nOne {e : Exit} {t : AT} (h : (f, vN t) ∈ φ) (k : JE Q e w0 σ ((f, vNs [t]) :: φ) fr) : JE Q e w0 σ φ fr := JE_addView (p := vNs [t]) (f := f) (fun _ s x hx => by rw [List.mem_singleton.1 hx]; exact s.views _ h) k
theorem JE_nMake {e : Exit} (h2 : (f, vCells ad (ncL ks)) ∈ φ) (h3 : (f, vNs ks) ∈ φ) (k : JE Q e w0 σ ((f, vN (nw n q ad cap ks)) :: φ) fr) : JE Q e w0 σ φ fr :=
  JE_addView (p := vN (nw n q ad cap ks)) (f := f) (fun _ s => AT.hld_iff.2 ⟨s.views _ h2, s.views _ h3⟩) k
theorem JL_nLeaf (k : JL P ops Q w0 σ ((true, vN (nw n false none 0 [])) :: φ) lo fr) : JL P ops Q w0 σ φ lo fr :=
  JL_addView (p := vN (nw n false none 0 [])) (f := true) (fun _ _ => AT.hld_iff.2 ⟨fun j u hj => by simp [ncL, fcl, AT.kids] at hj, fun _ h => by cases h⟩) k
end
/-! ## Counting -/
variable {S : Nat → Bool}
/-- How many leaves of the row. -/
def cS (S : Nat → Bool) (t : PT) : Nat := (lvs t).countP S
def cL (S : Nat → Bool) (l : List PT) : Nat := (l.flatMap lvs).countP S
theorem cL_cons (k : PT) (l : List PT) : cL S (k :: l) = cS S k + cL S l := by unfold cL cS; rw [List.flatMap_cons, List.countP_append]
theorem cL_app (a b : List PT) : cL S (a ++ b) = cL S a + cL S b := by unfold cL; rw [List.flatMap_append, List.countP_append]
theorem cL_take {l : List AT} {i : Nat} (h : i < l.length) : cL S ((l.take (i + 1)).map er) = cL S ((l.take i).map er) + cS S (er (l.getD i default)) := by
  rw [takeA_succ h, List.map_append, cL_app, List.map_singleton, cL_cons]; rfl
theorem cS_le (t : PT) : cS S t ≤ (lvs t).length := List.countP_le_length
theorem cL_le (l : List PT) : cL S l ≤ nl l := List.countP_le_length
theorem cS_kn {t : AT} (h : t.kids.length ≠ 0) : cS S (er t) = cL S (t.kids.map er) := by rw [er_kn h]; unfold cS; rw [lvs_nd]; rfl
theorem cS_zero {t : PT} (h : Ok t) : cS S t = 0 ↔ st S t = 0 := by
  rw [st_zero h]; unfold cS
  rw [List.countP_eq_zero]
  exact ⟨fun h x hx => by simpa using h x hx, fun h x hx => by simp [h x hx]⟩
theorem cS_all {t : PT} (h : Ok t) : cS S t = (lvs t).length ↔ st S t = 2 := by
  rw [st_two h]; unfold cS
  rw [List.countP_eq_length]
theorem st_cnt {t : PT} (h : Ok t) : st S t = if cS S t = 0 then 0 else if cS S t = (lvs t).length then 2 else 1 := by
  have h1 := cS_zero (S := S) h
  have h2 := cS_all (S := S) h
  have h3 := st_le S t
  split
  · rename_i e; exact h1.1 e
  · split
    · rename_i e; exact h2.1 e
    · rename_i e0 e2
      have : st S t ≠ 0 := fun e => e0 (h1.2 e)
      have : st S t ≠ 2 := fun e => e2 (h2.2 e)
      omega
theorem cL_zero {l : List PT} (h : ∀ k ∈ l, Ok k) : cL S l = 0 ↔ some_ S l = 0 := by
  induction l with
  | nil => exact ⟨fun _ => rfl, fun _ => rfl⟩
  | cons k l ih =>
    have h1 := cS_zero (S := S) (h k List.mem_cons_self)
    have h2 := ih fun x hx => h x (List.mem_cons_of_mem _ hx)
    rw [cL_cons, some_cons]
    constructor
    · intro e
      rw [if_pos (h1.1 (by omega)), h2.1 (by omega)]
    · intro e
      by_cases c : st S k = 0
      · rw [if_pos c] at e
        have := h1.2 c; have := h2.2 (by omega); omega
      · rw [if_neg c] at e; omega
theorem okM {l : List AT} (h : ∀ k ∈ l, Fit k) : ∀ k ∈ l.map er, Ok k := fun k hk => by
  obtain ⟨x, hx, rfl⟩ := List.mem_map.1 hk
  exact (h x hx).ok
theorem splitA {l : List AT} {i : Nat} (h : i < l.length) : l.map er = (l.take i).map er ++ er (l.getD i default) :: (l.drop (i + 1)).map er := by
  rw [← List.map_cons, ← dropA h, ← List.map_append, List.take_append_drop]
/-- All of the row lies below one kid. -/
theorem one_kid {l : List AT} (hf : ∀ k ∈ l, Fit k) {i : Nat} (h : i < l.length) (h0 : cL S (l.map er) ≠ 0) (e : cS S (er (l.getD i default)) = cL S (l.map er)) : some_ S (l.map er) = 1 ∧ lastI S (l.map er) = i := by
  have hs := splitA h
  rw [hs, cL_app, cL_cons] at e
  have hA : some_ S ((l.take i).map er) = 0 := (cL_zero (okM fun k hk => hf k (List.mem_of_mem_take hk))).1 (by omega)
  have hB : some_ S ((l.drop (i + 1)).map er) = 0 := (cL_zero (okM fun k hk => hf k (List.mem_of_mem_drop hk))).1 (by omega)
  have hx : st S (er (l.getD i default)) ≠ 0 := fun c => by
    have h1 := (cS_zero (S := S) (hf _ (at_mem h)).ok).2 c
    rw [hs, cL_app, cL_cons] at h0
    omega
  rw [hs, some_app, some_cons, if_neg hx, hA, hB]
  refine ⟨rfl, ?_⟩
  rw [lastI_at (some_zero.1 hB) hx, List.length_map, List.length_take]; omega
theorem no_kid {l : List AT} (hf : ∀ k ∈ l, Fit k) (e : ∀ i, i < l.length → cS S (er (l.getD i default)) ≠ cL S (l.map er)) : some_ S (l.map er) ≠ 1 := fun h => by
  obtain ⟨A, x, B, h1, hA, hB, hx⟩ := one_split h
  have hi : A.length < l.length := by have := congrArg List.length h1; simp at this; omega
  have hok := okM hf
  rw [h1] at hok
  refine e A.length hi ?_
  have h2 : er (l.getD A.length default) = x := by
    rw [← getD_er l hi, h1]; simp
  rw [h2, h1, cL_app, cL_cons, (cL_zero fun k hk => hok k (by simp [hk])).2 (some_zero.2 hA), (cL_zero fun k hk => hok k (by simp [hk])).2 (some_zero.2 hB)]
  omega
theorem cnt_in {S : Nat → Bool} {t : AT} (h : t.kids.length = 0) (hs : S t.col = true) : (lvs (er t)).length = 1 ∧ cS S (er t) = 1 := by
  rw [er_lf h]; unfold cS; rw [lvs]; exact ⟨rfl, by simp [hs]⟩
theorem cnt_out {S : Nat → Bool} {t : AT} (h : t.kids.length = 0) (hs : S t.col = false) : (lvs (er t)).length = 1 ∧ cS S (er t) = 0 := by
  rw [er_lf h]; unfold cS; rw [lvs]; exact ⟨rfl, by simp [hs]⟩
theorem nval_P {n c : Nat} {ad : Option Addr} {ks : List AT} (h : ks.length ≠ 0) : Value.agg #[.int .i64 1, .int .i64 (n : Nat), .slice ad ks.length c] = nval (nw n false ad c ks) := by
  show _ = Value.agg #[.int .i64 (kdI false ks.length), _, _]
  rw [kd_one.2 ⟨h, rfl⟩]; rfl
theorem nval_Q {n c : Nat} {ad : Option Addr} {ks : List AT} (h : ks.length ≠ 0) : Value.agg #[.int .i64 2, .int .i64 (n : Nat), .slice ad ks.length c] = nval (nw n true ad c ks) := by
  show _ = Value.agg #[.int .i64 (kdI true ks.length), _, _]
  rw [kd_two.2 ⟨h, rfl⟩]; rfl
theorem rev_take {l : List AT} {j : Nat} (h : j < l.length) : l.reverse.take (j + 1) = l.reverse.take j ++ [l.getD (l.length - 1 - j) default] := by
  rw [takeA_succ (by rw [List.length_reverse]; exact h), List.getD_eq_getElem?_getD, List.getElem?_reverse h, ← List.getD_eq_getElem?_getD]
/-- A node, or none. -/
structure RN (t' : AT) (b : Bool) (e : Option PT) : Prop where
  yes : b = true → Fit t' ∧ e = some (er t')
  no : b = false → e = none
theorem RN.not {t' : AT} {e : Option PT} (h : e = none) : RN t' false e := ⟨fun h => (by cases h), fun _ => h⟩
theorem RN.same {t' : AT} {e : Option PT} (hf : Fit t') (h : e = some (er t')) : RN t' true e := ⟨fun _ => ⟨hf, h⟩, fun h => (by cases h)⟩
def redC (S : Nat → Bool) (t : PT) : Option PT := if st S t = 0 then some t else red S t
/-! ## A line in order -/
def oR (S : Nat → Bool) (l : List AT) (i : Nat) : Prop := st S (er (l.getD (i + 1) default)) < st S (er (l.getD i default)) ∨ st S (er (l.getD i default)) = 1 ∧ st S (er (l.getD (i + 1) default)) = 1
instance (S : Nat → Bool) (l : List AT) (i : Nat) : Decidable (oR S l i) := by unfold oR; infer_instance
def ordR (S : Nat → Bool) (l : List AT) : Prop := ∀ i, i < l.length - 1 → ¬ oR S l i
instance (S : Nat → Bool) (l : List AT) : Decidable (ordR S l) := by unfold ordR; infer_instance
theorem linQ_ord : ∀ (K : List AT) (last : Nat) (ts : List PT), linQ S last (K.map er) = some ts → ordR S K
  | [], _, _, _ => fun i hi => absurd hi (Nat.not_lt_zero _)
  | k :: K, last, ts, e => by
    rw [List.map_cons, linQ] at e
    split at e
    · cases e
    · split at e
      · cases e
      · obtain ⟨us, e2, _⟩ := Option.map_eq_some_iff.1 e
        have ih := linQ_ord K _ us e2
        intro i hi
        match K, i, e2, ih, hi with
        | [], _, _, _, hi => exact absurd hi (Nat.not_lt_zero _)
        | k2 :: K, 0, e2, _, _ =>
          rw [List.map_cons, linQ] at e2
          split at e2
          · cases e2
          · rename_i hn
            intro hc
            exact hn (hc.imp id fun h => ⟨h.2, h.1⟩)
        | k2 :: K, i + 1, _, ih, hi => exact ih i (by simp only [List.length_cons] at hi ⊢; omega)
theorem ordR.none {K : List AT} (h : ¬ ordR S K) (last : Nat) : linQ S last (K.map er) = Option.none := by
  cases e : linQ S last (K.map er) with
  | none => rfl
  | some ts => exact absurd (linQ_ord K last ts e) h
theorem ordR.mono {K : List AT} (h : ordR S K) {i : Nat} : ∀ {j : Nat}, i ≤ j → j < K.length → st S (er (K.getD i default)) ≤ st S (er (K.getD j default))
  | 0, h1, _ => by obtain rfl : i = 0 := by omega
                   exact Nat.le_refl _
  | j + 1, h1, h2 => by
    by_cases c : i = j + 1
    · rw [c]; exact Nat.le_refl _
    · have := h.mono (i := i) (j := j) (by omega) (by omega)
      have := h j (by omega)
      unfold oR at this
      omega
theorem getD_rev {l : List AT} {i : Nat} (h : i < l.length) : l.reverse.getD i default = l.getD (l.length - 1 - i) default := by
  rw [List.getD_eq_getElem?_getD, List.getElem?_reverse h, List.getD_eq_getElem?_getD]
theorem kidsK_ord {ks : List AT} (h0 : ks ≠ []) (h : ordR S ks) : kidsK S ks = ks := by
  have hl := List.length_pos_iff.2 h0
  have := h.mono (i := 0) (j := ks.length - 1) (by omega) (by omega)
  exact kidsK_f h0 (by omega)
theorem kidsK_rev {ks : List AT} (h0 : ks ≠ []) (h : ¬ ordR S ks) (h' : ordR S ks.reverse) : kidsK S ks = ks.reverse := by
  have hl := List.length_pos_iff.2 h0
  have hr : ks.reverse.length = ks.length := List.length_reverse
  have g : ∀ i, i < ks.length → ks.reverse.getD i default = ks.getD (ks.length - 1 - i) default := fun i hi => getD_rev hi
  refine kidsK_t h0 (Classical.byContradiction fun hn => h fun i hi hc => ?_)
  have m1 := h'.mono (i := 0) (j := ks.length - 1 - (i + 1)) (by omega) (by omega)
  have m2 := h'.mono (i := ks.length - 1 - (i + 1)) (j := ks.length - 1 - i) (by omega) (by omega)
  have m3 := h'.mono (i := ks.length - 1 - i) (j := ks.length - 1) (by omega) (by omega)
  have m4 := h' (ks.length - 1 - (i + 1)) (by omega)
  unfold oR at m4
  rw [show ks.length - 1 - (i + 1) + 1 = ks.length - 1 - i from by omega] at m4
  rw [g _ (by omega), g _ (by omega)] at m1 m2 m3 m4
  rw [show ks.length - 1 - (ks.length - 1 - (i + 1)) = i + 1 from by omega, show ks.length - 1 - (ks.length - 1 - i) = i from by omega] at m4
  rw [show ks.length - 1 - (ks.length - 1 - (i + 1)) = i + 1 from by omega] at m1
  rw [show ks.length - 1 - (ks.length - 1 - i) = i from by omega] at m3
  rw [show ks.length - 1 - (ks.length - 1) = 0 from by omega] at m3
  rw [show ks.length - 1 - 0 = ks.length - 1 from by omega] at m1
  unfold oR at hc
  omega
theorem kidsK_no {ks : List AT} (h : ¬ ordR S ks) (h' : ¬ ordR S ks.reverse) : linQ S 0 ((kidsK S ks).map er) = none := by
  unfold kidsK; split
  · exact ordR.none h' 0
  · exact ordR.none h 0
/-- The state of the kid ahead. -/
def lastR (S : Nat → Bool) (K : List AT) : Nat → Nat
  | 0 => 0
  | i + 1 => st S (er (K.getD i default))
theorem LQ.stepR {K : List AT} {i : Nat} {o p : List AT} (h : LQ S K (lastR S K i) i o) (hO : ordR S K) (hi : i < K.length) (hk : Ok (er (K.getD i default))) (e : lin S (er (K.getD i default)) = some (p.map er)) (hp : ∀ x ∈ p, Fit x) : LQ S K (lastR S K (i + 1)) (i + 1) (o ++ p) := by
  have h1 : ¬ st S (er (K.getD i default)) < lastR S K i ∧ ¬ (st S (er (K.getD i default)) = 1 ∧ lastR S K i = 1) := by
    cases i with
    | zero => exact ⟨Nat.not_lt_zero _, fun c => absurd c.2 (show (0 : Nat) ≠ 1 by decide)⟩
    | succ i =>
      have := hO i (by omega)
      unfold oR at this
      rw [show lastR S K (i + 1) = st S (er (K.getD i default)) from rfl]
      omega
  exact h.step hi hk h1.1 h1.2 e hp
/-- The first place of something of the row. -/
def FI (S : Nat → Bool) (l : List AT) (i : Nat) (a : Int) : Prop :=
  (a = -1 ∧ ∀ j, j < i → st S (er (l.getD j default)) = 0) ∨ ∃ k : Nat, a = (k : Int) ∧ k < i ∧ st S (er (l.getD k default)) ≠ 0 ∧ ∀ j, j < k → st S (er (l.getD j default)) = 0
theorem FI.zero (l : List AT) : FI S l 0 (-1) := .inl ⟨rfl, fun _ hj => absurd hj (Nat.not_lt_zero _)⟩
theorem FI.same {l : List AT} {i : Nat} {a : Int} (h : FI S l i a) (h0 : st S (er (l.getD i default)) = 0 ∨ a ≥ 0) : FI S l (i + 1) a := by
  rcases h with ⟨rfl, h⟩ | ⟨k, rfl, hk, h1, h2⟩
  · refine .inl ⟨rfl, fun j hj => ?_⟩
    by_cases c : j = i
    · subst c; exact h0.resolve_right (by decide)
    · exact h j (by omega)
  · exact .inr ⟨k, rfl, by omega, h1, h2⟩
theorem FI.here {l : List AT} {i : Nat} {a : Int} (h : FI S l i a) (ha : a < 0) (h0 : st S (er (l.getD i default)) ≠ 0) : FI S l (i + 1) (i : Int) := by
  rcases h with ⟨rfl, h⟩ | ⟨k, rfl, hk, h1, h2⟩
  · exact .inr ⟨i, rfl, by omega, h0, h⟩
  · omega
theorem FI.done {l : List AT} {a : Int} (h : FI S l l.length a) (h0 : some_ S (l.map er) ≠ 0) : a = (Pq.firstI S (l.map er) : Int) := by
  rcases h with ⟨_, h⟩ | ⟨k, rfl, hk, h1, h2⟩
  · refine absurd (some_zero.2 fun x hx => ?_) h0
    obtain ⟨y, hy, rfl⟩ := List.mem_map.1 hx
    obtain ⟨j, hj, rfl⟩ := List.mem_iff_getElem.1 hy
    have := h j hj
    rw [List.getD_eq_getElem?_getD, List.getElem?_eq_getElem hj] at this
    exact this
  · rw [firstI_eq hk h1 h2]
theorem getI_in {l : List Int} {j : Nat} (h : j < l.length) : l.getD j 0 ∈ l := by
  rw [List.getD_eq_getElem?_getD, List.getElem?_eq_getElem h]; exact List.getElem_mem h
theorem getI_out {L : List Int} {x : Int} (h : ∀ j, j < L.length → L.getD j 0 ≠ x) : x ∉ L := fun hx => by
  obtain ⟨j, hj, e⟩ := List.mem_iff_getElem.1 hx
  refine h j hj ?_
  rw [List.getD_eq_getElem?_getD, List.getElem?_eq_getElem hj]; exact e
/-! ## What the walks end with -/
theorem st1_kids {t : AT} (h : st S (er t) = 1) : t.kids.length ≠ 0 := fun e => by rw [er_lf e] at h; exact leaf_st S _ h
theorem line_f {t : AT} (h0 : t.kids.length ≠ 0) (h : ¬ t.kind = 2) : t.line = false := by
  cases e : t.line with
  | false => rfl
  | true => exact absurd (kd_two.2 ⟨h0, e⟩) h
def ordK (S : Nat → Bool) (ks : List AT) : List AT := if ordR S ks then ks else ks.reverse
theorem ordK_mem {ks : List AT} {x : AT} (h : x ∈ ordK S ks) : x ∈ ks := by
  unfold ordK at h; split at h
  · exact h
  · exact List.mem_reverse.1 h
theorem ordK_len (ks : List AT) : (ordK S ks).length = ks.length := by unfold ordK; split <;> simp
theorem ordK_nA (ks : List AT) : nA (ordK S ks) = nA ks := by
  unfold ordK; split
  · rfl
  · exact nA_rev ks
theorem ordK_no {ks : List AT} (h : ¬ ordR S (ordK S ks)) : linQ S 0 ((kidsK S ks).map er) = none := by
  unfold ordK at h
  by_cases c : ordR S ks
  · rw [if_pos c] at h; exact absurd c h
  · rw [if_neg c] at h; exact kidsK_no c h
theorem ordK_yes {ks : List AT} (h0 : ks ≠ []) (h : ordR S (ordK S ks)) : kidsK S ks = ordK S ks := by
  unfold ordK at *
  by_cases c : ordR S ks
  · rw [if_pos c]; exact kidsK_ord h0 c
  · rw [if_neg c] at *; exact kidsK_rev h0 c h
theorem tog_yes {ks l : List AT} {w g : AT} (hT : togL S (ks.map er) = some (l.map er)) (hw : lne (l.map er) = [er w]) (hg : grp ((byA S 0 ks ++ [w]).map er) = [er g]) : tog S (ks.map er) = some (er g) := by
  rw [tog_togL, hT]
  rw [List.map_append, byA_er, List.map_singleton] at hg
  show some ((grp (by_ S 0 (ks.map er) ++ lne (l.map er))).headD default) = _
  rw [hw, hg]; rfl
theorem wth_yes {ks o : List AT} {g : AT} (h : wthL S (Pq.firstI S (ks.map er)) (lastI S (ks.map er)) 0 (ks.map er) = some (o.map er)) (hg : lne (o.map er) = [er g]) : wth S (ks.map er) = some (er g) := by
  unfold wth
  rw [h]
  show some ((lne (o.map er)).headD default) = _
  rw [hg]; rfl
theorem wth_no {ks : List AT} (h : wthL S (Pq.firstI S (ks.map er)) (lastI S (ks.map er)) 0 (ks.map er) = none) : wth S (ks.map er) = none := by unfold wth; rw [h]; rfl
/-- Between the first and the last kid, and outside of them, nothing is partial. -/
theorem mid_lin {ks : List AT} {f l i : Nat} (h : ¬ (f < i ∧ i < l ∧ st S (er (ks.getD i default)) ≠ 2)) (h1 : i < f → st S (er (ks.getD i default)) = 0) (h2 : l < i → st S (er (ks.getD i default)) = 0) : (if i = f ∨ i = l then lin S (er (ks.getD i default)) else some [er (ks.getD i default)]) = lin S (er (ks.getD i default)) := by
  split
  · rfl
  · rename_i c
    refine (lin_one fun e => ?_).symm
    by_cases a : i < f
    · have := h1 a; omega
    · by_cases b : l < i
      · have := h2 b; omega
      · exact h ⟨by omega, by omega, by omega⟩
theorem FI.fz {l : List AT} {n : Nat} {k : Nat} (h : FI S l n (k : Int)) : ∀ j, j < k → st S (er (l.getD j default)) = 0 := by
  rcases h with ⟨e, _⟩ | ⟨k', e, _, _, h2⟩
  · omega
  · obtain rfl : k = k' := by omega
    exact h2
theorem LI.lz {l : List AT} {n : Nat} {k : Nat} (h : LI S l n (k : Int)) : ∀ j, k < j → j < n → st S (er (l.getD j default)) = 0 := by
  rcases h with ⟨e, _⟩ | ⟨k', e, _, _, h2⟩
  · omega
  · obtain rfl : k = k' := by omega
    exact h2
theorem redC_same {t : AT} (h : st S (er t) ≠ 1) : redC S (er t) = some (er t) := by
  unfold redC
  split
  · rfl
  · rename_i h0
    by_cases c : t.kids.length = 0
    · rw [er_lf c, red]
    · have := st_le S (er t)
      rw [er_kn c] at *
      rw [red_nd, if_pos (by omega)]
theorem redC_nd {t : AT} (h : st S (er t) = 1) (hk : t.kids.length ≠ 0) : redC S (er t) =
    if some_ S (t.kids.map er) = 1 then ((((t.kids.map er).map (red S)).getD (lastI S (t.kids.map er)) none).map fun k => .nd t.line ((t.kids.map er).set (lastI S (t.kids.map er)) k)) else if t.line then wth S (t.kids.map er) else tog S (t.kids.map er) := by
  unfold redC
  rw [if_neg (by omega)]
  rw [er_kn hk] at *
  rw [red_nd, if_neg (by omega)]
theorem redC_many {t : AT} {q : Bool} (h : st S (er t) = 1) (hk : t.kids.length ≠ 0) (h1 : some_ S (t.kids.map er) ≠ 1) (hq : t.line = q) : redC S (er t) = if q then wth S (t.kids.map er) else tog S (t.kids.map er) := by
  rw [redC_nd h hk, if_neg h1, hq]
theorem RN.kid {t w : AT} {i c : Nat} {b : Bool} {ad : Option Addr} (hf : Fit t) (h : st S (er t) = 1) (hk : t.kids.length ≠ 0) (hi : i < t.kids.length) (h0 : cS S (er t) ≠ 0) (he : cS S (er (t.kids.getD i default)) = cS S (er t)) (hr : RN w b (redC S (er (t.kids.getD i default)))) (hc : t.kids.length ≤ c) :
    RN (nw 0 t.line ad c (t.kids.set i w)) b (redC S (er t)) := by
  rw [cS_kn hk] at h0 he
  obtain ⟨h1, h2⟩ := one_kid (fitK hf) hi h0 he
  have hs : st S (er (t.kids.getD i default)) ≠ 0 := fun e => by
    have := (cS_zero (fitK hf _ (at_mem hi)).ok).2 e
    omega
  have e : ((t.kids.map er).map (red S)).getD (lastI S (t.kids.map er)) none = red S (er (t.kids.getD i default)) := by
    rw [h2, List.getD_eq_getElem?_getD, List.getElem?_map, List.getElem?_map, List.getD_eq_getElem?_getD, List.getElem?_eq_getElem hi]; rfl
  have e2 : redC S (er t) = (redC S (er (t.kids.getD i default))).map fun k => .nd t.line ((t.kids.map er).set i k) := by
    rw [redC_nd h hk, if_pos h1, e, h2]
    conv => rhs; unfold redC
    rw [if_neg hs]
  rw [e2]
  cases b with
  | false => exact RN.not (by rw [hr.no rfl]; rfl)
  | true =>
    obtain ⟨g1, g2⟩ := hr.yes rfl
    have hm : ∀ x ∈ t.kids.set i w, Fit x := fun x hx => (List.mem_or_eq_of_mem_set hx).elim (fitK hf x) (fun e => by rw [e]; exact g1)
    refine RN.same (.mk _ _ _ _ _ _ (by rw [List.length_set]; exact hc) (by rw [List.length_set]; exact fitL hf) (fun _ => by rw [List.length_set]; exact fit2 hf hk) (fun hq => by rw [List.length_set]; exact fit3 hf hq) hm) ?_
    rw [g2, er_mk (by rw [List.length_set]; omega), List.map_set]; rfl
theorem nval_set {t w : AT} {i c : Nat} {ad : Option Addr} : Value.agg #[.int .i64 t.kind, .int .i64 ((0 : Nat) : Int), .slice ad t.kids.length c] = nval (nw 0 t.line ad c (t.kids.set i w)) := by
  show _ = Value.agg #[.int .i64 (kdI t.line (t.kids.set i w).length), .int .i64 ((0 : Nat) : Int), .slice ad (t.kids.set i w).length c]
  rw [List.length_set]
section
variable {Q : Exit → Act → World → Prop} {w0 : Ctx} {σ : List Res} {φ : List (Bool × VP)} {fr : Go.Fw.Fr} {f : Bool}
theorem JE_nNo {e : Exit} (k : JE Q e w0 σ ((true, vCells none (ncL [])) :: (true, vNs []) :: φ) fr) : JE Q e w0 σ φ fr :=
  JE_nNil (JE_addView (p := vCells none (ncL [])) (f := true) (fun _ _ => nilF) k)
theorem JE_nLeaf {e : Exit} {n : Nat} (k : JE Q e w0 σ ((true, vN (nw n false none 0 [])) :: φ) fr) : JE Q e w0 σ φ fr :=
  JE_addView (p := vN (nw n false none 0 [])) (f := true) (fun _ _ => AT.hld_iff.2 ⟨fun j u hj => by simp [ncL, fcl, AT.kids] at hj, fun _ h => by cases h⟩) k
theorem JE_nSet {e : Exit} {l : List AT} {x : AT} {i : Nat} (h : (f, vNs l) ∈ φ) (hx : (f, vN x) ∈ φ) (k : JE Q e w0 σ ((f, vNs (l.set i x)) :: φ) fr) : JE Q e w0 σ φ fr :=
  JE_addView (p := vNs (l.set i x)) (f := f) (fun _ s y hy => (List.mem_or_eq_of_mem_set hy).elim (s.views _ h y) (fun e => by rw [e]; exact s.views _ hx)) k
end
end Go.Fw.Pq
