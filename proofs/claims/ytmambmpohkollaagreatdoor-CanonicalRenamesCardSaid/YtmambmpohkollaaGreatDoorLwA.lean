/- From a law's contract to the row's statement: the arguments opened, the end shut. -/
import Derived.Test.YtmambmpohkollaaGreatDoorFwC
import Derived.Test.YtmambmpohkollaaGreatDoorRows
import Derived.ProofKit
import Derived.OpenShut
import Derived.Carry
import Derived.Lay
import Derived.ChangeSame
import Derived.ChangeSlices
import Derived.Handed
import Derived.JoinedOf
import Derived.Stop.Joined
import Derived.Lib.SmallJoins
import Derived.Deep.Slices
namespace Go.Fw
open Go Go.RowKit Go.Nat9 Go.ChangeShapes Go.WideShapes

theorem holds_append {X : Nat → Prop} {w : World} {l1 l2 : List VP} (h1 : ∀ q ∈ l1, q.holds X w) (h2 : ∀ q ∈ l2, q.holds X w) : ∀ q ∈ l1 ++ l2, q.holds X w := fun q hq => (List.mem_append.1 hq).elim (h1 q) (h2 q)
theorem array6 {α : Type} {cs : Array α} (h : cs.size = 6) : ∃ c0 c1 c2 c3 c4 c5, cs = #[c0, c1, c2, c3, c4, c5] := by
  obtain ⟨l⟩ := cs
  match l, h with
  | [c0, c1, c2, c3, c4, c5], _ => exact ⟨c0, c1, c2, c3, c4, c5, rfl⟩
section
variable {H : Type} {enc : TypeId × Value → H} {P : Program}
/-- The post of a function that leaves what was there as it was. -/
theorem post_of_below {f : Func} {s : ChangeSpec} {apart fresh handsOn : Bool} {W W' : World} {args : Array Value} {v : Value} {ds gs : List (DataW H)} {before pa pv : List MemPlace}
    (hW : DataW.Whole enc P f.params.toList s.vars apart W args.toList ds gs before)
    (hres : ∀ (b : Nat) (sp : Nat → Bool) (hd : Bool), DataW.TrodAll enc P W' b sp hd f.resultTypes.toList (v.resultList f.resultTypes.size) (s.fn H (ds ++ gs)).results [])
    (hargs : DataW.TrodAll enc P W' 0 (fun b => decide (b < W.heap.size)) true f.params.toList args.toList (s.fn H (ds ++ gs)).args pa)
    (hvars : DataW.TrodVars enc P W' (fun b => decide (b < W.heap.size)) s.vars (s.fn H (ds ++ gs)).vars pv)
    (hb : Below W.heap.size W W') : s.post enc P f apart fresh handsOn false W args v W' :=
  ⟨ds, gs, before, [], pa, pv, hW, hres _ _ _, hargs, hvars, hb.frame _, fun h => by cases h⟩
theorem trodAll_below (hl : laidOutB P = true) {W W' : World} (hb : Below W.heap.size W W') : ∀ {ts : List TypeId} {vs : List Value} {ds : List (DataW H)} {p : List MemPlace}, (ts.all fun t => P.readableRec t && decide (t < P.types.size)) = true →
    DataW.TrodAll enc P W 0 (fun _ => true) true ts vs ds p → (∀ x ∈ p, x.block < W.heap.size) → DataW.TrodAll enc P W' 0 (fun b => decide (b < W.heap.size)) true ts vs ds p
  | [], _, _, _, _, h, _ => by
    obtain ⟨rfl, rfl, rfl⟩ := trodAll_nil h
    rfl
  | t :: ts, _, _, _, ht, h, hlt => by
    obtain ⟨v, vs1, d, ds1, a, b, rfl, rfl, rfl, h1, h2⟩ := trodAll_cons h
    simp only [List.all_cons, Bool.and_eq_true, decide_eq_true_eq] at ht
    exact ⟨a, b, Below.trod hl ht.1.1 ht.1.2 h1 hb (fun x hx => hlt x (List.mem_append_left _ hx)), trodAll_below hl hb ht.2 h2 (fun x hx => hlt x (List.mem_append_right _ hx)), rfl⟩
variable {w : World} {base : Nat} {sp : Nat → Bool} {held : Bool}
theorem open_u32s {ts e : TypeId} {fuel : Nat} {v : Value} {x : DataW H × List MemPlace} (ht : P.underlying ts = some (.slice e)) (he : P.underlying e = some (.int .u32)) (hc : P.cellsOf e = 1)
    (h : DataW.trod enc P w base sp held fuel ts [v] = some x) : ∃ (ad : Option Addr) (n c : Nat) (L : List Nat), v = .slice ad n c ∧ L.length = n ∧ U32 L ∧ CellsAt (fun _ => False) w ad (u32s L) := by
  rcases open_ints ht he hc h with ⟨hcs, _⟩ | ⟨a, len, cap, zs, hcs, _, hl, _, hlen, _, hcell, hwf⟩
  · simp only [List.cons.injEq, and_true] at hcs
    subst hcs
    exact ⟨none, 0, 0, [], rfl, rfl, fun _ h => (List.not_mem_nil h).elim, fun j u hj => by simp [u32s] at hj⟩
  · simp only [List.cons.injEq, and_true] at hcs
    subst hcs
    have hle : len ≤ zs.length := by rw [hlen]; split <;> omega
    have hr : ∀ n ∈ zs, 0 ≤ n ∧ n < 4294967296 := fun n hn => by
      have := hwf n hn
      simp only [Lit.wf, Bool.and_eq_true, IntKind.min, IntKind.max, IntKind.bits, IntKind.signed] at this
      simp at this
      omega
    refine ⟨some a, len, cap, (zs.take len).map Int.toNat, rfl, by simp; omega, ?_, ?_⟩
    · intro b hb
      obtain ⟨z, hz, rfl⟩ := List.mem_map.1 hb
      have := hr z (List.mem_of_mem_take hz)
      omega
    · intro j u hj
      have hjl : j < len := by
        have := (List.getElem?_eq_some_iff.1 hj).1
        simp [u32s] at this
        omega
      have hc0 := hcell j (by omega)
      have hz : zs[j]? = some (zs.getD j 0) := by
        rw [List.getD_eq_getElem?_getD, List.getElem?_eq_getElem (by omega)]; rfl
      have hnn := hr (zs.getD j 0) (List.mem_of_getElem? hz)
      have hu : u = .int .u32 (zs.getD j 0) := by
        simp only [u32s, List.map_map, List.getElem?_map, List.getElem?_take, if_pos hjl, hz, Option.map_some, Option.some.injEq, Function.comp] at hj
        rw [← hj]
        congr 1
        omega
      obtain ⟨b, o, sp⟩ := a
      cases sp with
      | none => exact ⟨b, o, rfl, fun h => h, by rw [hu]; rwa [add_lit'] at hc0⟩
      | some k =>
        exfalso
        have h0 := hcell 0 (by omega)
        rw [show Addr.add ⟨b, o, some k⟩ 0 = ⟨b, o, some k⟩ from by simp [Addr.add]] at h0
        unfold World.cell? at h0
        split at h0
        · simp at h0
        · cases h0
end
end Go.Fw

/- Arguments that are slices of elements of some cells each: opened. -/
namespace Go.Fw
open Go Go.RowKit Go.Nat9 Go.Proofs Go.ChangeShapes Go.WideShapes Go.ChangeAt

section
variable {α : Type} {f : α → List Value} {z : Nat}
theorem flatN_length (hf : ∀ x, (f x).length = z) : ∀ l : List α, (l.flatMap f).length = l.length * z
  | [] => by simp
  | x :: l => by rw [List.flatMap_cons, List.length_append, flatN_length hf l, hf, List.length_cons, Nat.succ_mul]; omega
theorem flatN_get (hf : ∀ x, (f x).length = z) : ∀ (l : List α) (j : Nat) (x : α), l[j]? = some x → ∀ m, m < z → (l.flatMap f)[j * z + m]? = (f x)[m]?
  | [], _, _, h, _, _ => by simp at h
  | y :: l, 0, x, h, m, hm => by
    simp at h
    subst h
    rw [List.flatMap_cons, List.getElem?_append_left (by rw [hf]; omega)]
    congr 1; omega
  | y :: l, j + 1, x, h, m, hm => by
    rw [List.flatMap_cons, List.getElem?_append_right (by rw [hf, Nat.succ_mul]; omega), hf]
    rw [show (j + 1) * z + m - z = j * z + m from by rw [Nat.succ_mul]; omega]
    exact flatN_get hf l j x (by simpa using h) m hm
end
section
variable {H : Type} {P : Program} {enc : TypeId × Value → H} {w : World} {base : Nat} {sp : Nat → Bool} {held : Bool}
theorem open_rows {t e : TypeId} {α : Type} [Inhabited α] {cel : α → List Value} {good : α → Prop} {z : Nat} {fuel : Nat} {v : Value} {x : DataW H × List MemPlace} (ht : P.underlying t = some (.slice e)) (hsz : P.cellsOf e = z) (hz : 0 < z) (hcel : ∀ y, (cel y).length = z)
    (hopen : ∀ fuel cs x, cs.length = z → DataW.trod enc P w base sp held fuel e cs = some x → ∃ y, cs = cel y ∧ good y) (h : DataW.trod enc P w base sp held fuel t [v] = some x) :
    ∃ (ad : Option Addr) (c : Nat) (l : List α), v = .slice ad l.length c ∧ l.length ≤ 9223372036854775807 ∧ (∀ y ∈ l, good y) ∧ CellsAt (fun _ => False) w ad (l.flatMap cel) := by
  rcases Go.Deep.open_slice ht h with ⟨hcs, _⟩ | ⟨a, len, cap, m, n, D, Pl, hcs, _, hl, hm, hmm, _, hel⟩
  · simp only [List.cons.injEq, and_true] at hcs
    subst hcs
    exact ⟨none, 0, [], rfl, Nat.zero_le _, fun _ h => (List.not_mem_nil h).elim, fun j u hj => by simp at hj⟩
  · simp only [List.cons.injEq, and_true] at hcs
    subst hcs
    have hle : len ≤ m := by rw [hmm]; split <;> omega
    obtain ⟨g, hg⟩ := Go.Deep.choose_lt (n := len) (p := fun i y => w.cells? base (a.add (i * z)) z = some (cel y) ∧ good y) (fun i hi => by
      obtain ⟨cs', h1, h2⟩ := hel i (by omega)
      rw [hsz] at h1
      obtain ⟨_, hlen, _⟩ := World.cells?_some h1
      obtain ⟨y, rfl, hy⟩ := hopen _ _ _ hlen h2
      exact ⟨y, h1, hy⟩)
    have hll : ((List.range len).map g).length = len := by simp
    refine ⟨some a, cap, (List.range len).map g, by rw [hll], by rw [hll]; have : cap ≤ 9223372036854775807 := hm; omega, ?_, ?_⟩
    · intro y hy
      obtain ⟨i, hi, rfl⟩ := List.mem_map.1 hy
      exact (hg i (List.mem_range.1 hi)).2
    · intro j u hj
      have hjl : j < len * z := by
        have := (List.getElem?_eq_some_iff.1 hj).1
        rwa [flatN_length hcel, hll] at this
      have hi : j / z < len := Nat.div_lt_of_lt_mul (by rw [Nat.mul_comm]; exact hjl)
      have hr : j % z < z := Nat.mod_lt _ hz
      have hsum : j / z * z + j % z = j := by rw [Nat.mul_comm]; exact Nat.div_add_mod j z
      have hgi : ((List.range len).map g)[j / z]? = some (g (j / z)) := by rw [List.getElem?_map, List.getElem?_range hi]; rfl
      have h1 := flatN_get hcel _ _ _ hgi (j % z) hr
      rw [hsum, hj] at h1
      have h2 := (World.cells?_some (hg (j / z) hi).1).2.2 (j % z) hr
      rw [← h1, Go.Deep.add_add, hsum] at h2
      obtain ⟨b, o, sb⟩ := a
      cases sb with
      | none => exact ⟨b, o, rfl, fun h => h, by rwa [add_lit'] at h2⟩
      | some k =>
        exfalso
        have hpos : 0 < len := Nat.lt_of_le_of_lt (Nat.zero_le _) hi
        have h0 := (World.cells?_some (hg 0 hpos).1).2.2 0 hz
        have hc0 : (cel (g 0))[0]? ≠ none := by
          rw [List.getElem?_eq_getElem (by rw [hcel]; exact hz)]; simp
        rw [← h0, Nat.zero_mul] at hc0
        rw [show (Addr.add ⟨b, o, some k⟩ 0).add 0 = ⟨b, o, some k⟩ from by simp [Addr.add]] at hc0
        unfold World.cell? at hc0
        split at hc0
        · simp at hc0
        · exact hc0 rfl
end
end Go.Fw
