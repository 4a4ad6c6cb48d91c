/- The program logic's rules for slices that grow or are cut, for calls, and for the end of a function. -/
import Derived.Test.YtmbgbodkhdfdoaaDoorFwC
namespace Go.Fw
open Go Go.RowKit

def subAd (ad : Option Addr) (m l sz : Nat) : Option Addr := if m = l then ad else ad.map fun a => a.add (l * sz)
theorem subAd_zero (ad : Option Addr) (m sz : Nat) : subAd ad m 0 sz = ad := by
  unfold subAd
  split
  · rfl
  · cases ad <;> simp [Addr.add]
def OptIs (fr : Fr) (x : Option Operand) (n : Nat) (dflt : Nat) : Prop :=
  match x with
  | none => n = dflt
  | some y => ∃ k a, Ev fr y (.int k a) ∧ a = (n : Int)
theorem OptIs.none {fr : Fr} {n : Nat} : OptIs fr none n n := rfl
theorem OptIs.some {fr : Fr} {y : Operand} {n dflt : Nat} {k : IntKind} {a : Int} (h : Ev fr y (.int k a)) (ha : a = (n : Int)) : OptIs fr (some y) n dflt := ⟨k, a, h, ha⟩

section
variable {P : Program} {Q : Exit → Act → World → Prop} {w0 : Ctx} {σ σ' : List Res} {φ φ' : List (Bool × VP)} {fr : Fr} {ops : Array Oper} {rest : List Oper}
  {d : Nat} {ty : TypeId} {pos : String} {aft : Array Edge}

theorem run_sliceBound {k : IntKind} {n y : Nat} {code : BoundsCode} (h : n ≤ y) (w : World) : (Instr.sliceBound (.int k (n : Int)) y code).run P w = .ok n w := by
  have h' : ((n : Int) ≤ (y : Int)) := by omega
  simp [Instr.sliceBound, asIntOf, h]
theorem run_sliceAt {t e : TypeId} {sz by' : Nat} {z : List Value} {x : Operand} {lo hi mx : Option Operand} {ad : Option Addr} {len cap l h m : Nat} (hs : slOf P t = some (e, sz, by', z)) (hx : Ev fr x (.slice ad len cap))
    (hlo : OptIs fr lo l 0) (hhi : OptIs fr hi h len) (hmx : OptIs fr mx m cap) (hno : mx = none ∨ hi ≠ none) (h1 : l ≤ h) (h2 : h ≤ m) (h3 : m ≤ cap) (w : World) :
    (Instr.sliceAt t (ev fr x) (lo.map (ev fr)) (hi.map (ev fr)) (mx.map (ev fr))).run P w = .ok (.slice (subAd ad m l sz) (h - l) (m - l)) w := by
  obtain ⟨i, zv, hu, hi', s1, s2, s3, s4⟩ := slOf_spec hs
  have hb : (Instr.sliceBounds true len cap (lo.map (ev fr)) (hi.map (ev fr)) (mx.map (ev fr))).run P w = .ok (l, h, m) w := by
    cases lo with
    | none =>
      simp only [OptIs] at hlo
      subst hlo
      cases mx with
      | none =>
        simp only [OptIs] at hmx
        subst hmx
        cases hi with
        | none =>
          simp only [OptIs] at hhi
          subst hhi
          simp only [Instr.sliceBounds, Option.map_none, Sem.run_bind, Sem.run_pure, Result.andThen_ok]
        | some y =>
          obtain ⟨k, a, hy, rfl⟩ := hhi
          simp only [Instr.sliceBounds, Option.map_none, Option.map_some, hy.eq, Sem.run_bind, Sem.run_pure, Result.andThen_ok, run_sliceBound h2]
      | some y =>
        obtain ⟨k, a, hy, rfl⟩ := hmx
        cases hi with
        | none => simp at hno
        | some y' =>
          obtain ⟨k', a', hy', rfl⟩ := hhi
          simp only [Instr.sliceBounds, Option.map_none, Option.map_some, hy.eq, hy'.eq, Sem.run_bind, Sem.run_pure, Result.andThen_ok, run_sliceBound h2, run_sliceBound h3]
    | some yl =>
      obtain ⟨kl, al, hyl, rfl⟩ := hlo
      cases mx with
      | none =>
        simp only [OptIs] at hmx
        subst hmx
        cases hi with
        | none =>
          simp only [OptIs] at hhi
          subst hhi
          simp only [Instr.sliceBounds, Option.map_none, Option.map_some, hyl.eq, Sem.run_bind, Sem.run_pure, Result.andThen_ok, run_sliceBound h1]
        | some y =>
          obtain ⟨k, a, hy, rfl⟩ := hhi
          simp only [Instr.sliceBounds, Option.map_none, Option.map_some, hyl.eq, hy.eq, Sem.run_bind, Sem.run_pure, Result.andThen_ok, run_sliceBound h1, run_sliceBound h2]
      | some y =>
        obtain ⟨k, a, hy, rfl⟩ := hmx
        cases hi with
        | none => simp at hno
        | some y' =>
          obtain ⟨k', a', hy', rfl⟩ := hhi
          simp only [Instr.sliceBounds, Option.map_some, hyl.eq, hy.eq, hy'.eq, Sem.run_bind, Sem.run_pure, Result.andThen_ok, run_sliceBound h1, run_sliceBound h2, run_sliceBound h3]
  rw [hx.eq]
  simp only [Instr.sliceAt, Sem.run_bind, run_underlying hu, Result.andThen_ok, Instr.slice, hb, sizeOf, typeInfo, run_program, hi', Sem.run_pure, s1, subAd]
theorem JL_slice {t e : TypeId} {sz by' : Nat} {z : List Value} {x : Operand} {lo hi mx : Option Operand} {ad : Option Addr} {len cap : Nat} (l h m : Nat) (hs : slOf P t = some (e, sz, by', z)) (hx : Ev fr x (.slice ad len cap))
    (hlo : OptIs fr lo l 0) (hhi : OptIs fr hi h len) (hmx : OptIs fr mx m cap) (hno : mx = none ∨ hi ≠ none) (h1 : l ≤ h) (h2 : h ≤ m) (h3 : m ≤ cap)
    (k : JL P ops Q w0 σ φ rest (upd fr d (.slice (subAd ad m l sz) (h - l) (m - l)))) : JL P ops Q w0 σ φ (⟨some d, .slice t x lo hi mx, ty, pos, aft, none⟩ :: rest) fr :=
  JL_pure _ (fun w => by
    simp only [execOp, Sem.run_bind, run_sliceAt hs hx hlo hhi hmx hno h1 h2 h3 w, Result.andThen_ok, Sem.run_pure]) k
/-- 's[:h]' -/
theorem JL_sliceTo {t e : TypeId} {sz by' : Nat} {z : List Value} {x y : Operand} {ad : Option Addr} {len cap : Nat} {kk : IntKind} {a : Int} (h : Nat) (hs : slOf P t = some (e, sz, by', z)) (hx : Ev fr x (.slice ad len cap))
    (hy : Ev fr y (.int kk a)) (ha : a = (h : Int)) (h2 : h ≤ cap)
    (k : JL P ops Q w0 σ φ rest (upd fr d (.slice ad h cap))) : JL P ops Q w0 σ φ (⟨some d, .slice t x none (some y) none, ty, pos, aft, none⟩ :: rest) fr := by
  refine JL_slice 0 h cap hs hx .none (.some hy ha) .none (.inl rfl) (Nat.zero_le _) h2 (Nat.le_refl _) ?_
  rw [subAd_zero]; exact k

/-! ### Views and own resources behind a cut, a gift -/
theorem CellsAt.sub {X : Nat → Prop} {w : World} {ad : Option Addr} {xs : List Value} (h : CellsAt X w ad xs) (m l hh sz : Nat) (hm : hh ≤ m) : CellsAt X w (subAd ad m l sz) ((xs.take (hh * sz)).drop (l * sz)) := by
  intro j u hj
  rw [List.getElem?_drop, List.getElem?_take] at hj
  split at hj
  · rename_i hlt
    obtain ⟨b, o, rfl, hX, hc⟩ := h _ _ hj
    have hne : m ≠ l := by
      rintro rfl
      have : hh * sz ≤ m * sz := Nat.mul_le_mul_right _ hm
      omega
    refine ⟨b, o + l * sz, ?_, hX, ?_⟩
    · simp [subAd, hne, add_lit']
    · rw [Nat.add_assoc]; exact hc
  · cases hj
theorem JC_addView {c : Code} {p : VP} {f : Bool} (h : ∀ w, St w0 w σ φ → p.holds (Xof w0 σ f) w) (k : JC P c Q w0 σ ((f, p) :: φ) fr) : JC P c Q w0 σ φ fr := JC_conv (fun w s => s.addView (h w s)) k
theorem JL_addView {l : List Oper} {p : VP} {f : Bool} (h : ∀ w, St w0 w σ φ → p.holds (Xof w0 σ f) w) (k : JL P ops Q w0 σ ((f, p) :: φ) l fr) : JL P ops Q w0 σ φ l fr := JL_conv (fun w s => s.addView (h w s)) k
theorem JE_addView {e : Exit} {p : VP} {f : Bool} (h : ∀ w, St w0 w σ φ → p.holds (Xof w0 σ f) w) (k : JE Q e w0 σ ((f, p) :: φ) fr) : JE Q e w0 σ φ fr := JE_conv (fun w s => s.addView (h w s)) k
theorem St.sub {w : World} (s : St w0 w σ φ) {f : Bool} {ad : Option Addr} {xs : List Value} (h : (f, vCells ad xs) ∈ φ) (m l hh sz : Nat) (hm : hh ≤ m) :
    (vCells (subAd ad m l sz) ((xs.take (hh * sz)).drop (l * sz))).holds (Xof w0 σ f) w := CellsAt.sub (s.views _ h) m l hh sz hm

/-- Own resource i is let go: from now on it is immutable data, in fresh memory. -/
theorem St.give {w : World} {ad : Option Addr} {n cap sz : Nat} {E : TypeId} {xs : List Value} (s : St w0 w σ φ) (i : Nat) (hi : Nth σ i (osl ad n cap E sz xs)) : St w0 w (σ.eraseIdx i) ((true, vCells ad xs) :: φ) := by
  have hilt : i < σ.length := (List.getElem?_eq_some_iff.1 hi.get).1
  have hget : σ[i] = osl ad n cap E sz xs := by have := hi.get; rw [List.getElem?_eq_getElem hilt] at this; simpa using this
  refine (s.dropRes (List.eraseIdx_sublist _ _)).addView ?_
  intro j u hj
  obtain ⟨b, o, rfl, _, hc⟩ := own_cells (s.own _ hi.mem) j u hj
  refine ⟨b, o, rfl, ?_, hc⟩
  have hkey : (osl (some ⟨b, o, none⟩) n cap E sz xs).key = some b := rfl
  rintro (⟨r, hr, hrk⟩ | ⟨_, hlt⟩)
  · obtain ⟨m, hm, rfl⟩ := List.mem_iff_getElem.1 hr
    have hd := List.pairwise_iff_getElem.1 s.dist
    rw [List.getElem_eraseIdx] at hrk
    have hlen : (σ.eraseIdx i).length = σ.length - 1 := List.length_eraseIdx_of_lt hilt
    split at hrk
    · rename_i hmi
      exact hd m i (by omega) hilt hmi b hrk (by rw [hget]; exact hkey)
    · rename_i hmi
      exact hd i (m + 1) hilt (by omega) (by omega) b (by rw [hget]; exact hkey) hrk
  · have := s.fresh _ hi.mem b hkey
    have := w0.hY b hlt
    omega
/-- An owned slice cut short. -/
theorem own_short {w : World} {ad : Option Addr} {n cap sz : Nat} {E : TypeId} {xs : List Value} (h : (osl ad n cap E sz xs).holds w) (m : Nat) (hm : m ≤ n) : (osl ad m cap E sz (xs.take (m * sz))).holds w := by
  have hmn : m * sz ≤ n * sz := Nat.mul_le_mul_right _ hm
  refine ⟨by rw [List.length_take, h.1]; omega, ?_⟩
  rcases h.2 with ⟨hv, hn⟩ | ⟨g, cap', cur, hv, hb, hgg, hnc, hcm, hcs, htake⟩
  · simp only [Value.slice.injEq] at hv
    obtain ⟨rfl, rfl, rfl⟩ := hv
    obtain rfl : m = 0 := by omega
    exact .inl ⟨rfl, rfl⟩
  · simp only [Value.slice.injEq] at hv
    obtain ⟨rfl, _, rfl⟩ := hv
    refine .inr ⟨g, cap, cur, rfl, hb, hgg, by omega, hcm, hcs, ?_⟩
    rw [← htake, List.take_take]
    congr 1
    omega
theorem St.short {w : World} {ad : Option Addr} {n cap sz : Nat} {E : TypeId} {xs : List Value} (s : St w0 w σ φ) (i m : Nat) (hi : Nth σ i (osl ad n cap E sz xs)) (hm : m ≤ n) : St w0 w (updL σ i (osl ad m cap E sz (xs.take (m * sz)))) φ := by
  rw [updL_set]
  exact s.setRes i _ _ hi.get (Nat.le_refl _) rfl rfl rfl (fun _ _ _ => rfl) (own_short (s.own _ hi.mem) m hm) (fun k hk => .inl (by cases ad with | none => (simp [osl, Value.ownBlock] at hk) | some a => exact hk))

theorem JL_len {t e rt : TypeId} {sz by' : Nat} {z : List Value} {x : Operand} {ad : Option Addr} {len cap : Nat} (hs : slOf P t = some (e, sz, by', z)) (hx : Ev fr x (.slice ad len cap))
    (k : JL P ops Q w0 σ φ rest (upd fr d (.int .i64 len))) : JL P ops Q w0 σ φ (⟨some d, .call { callee := .builtin .len, args := #[x], argTypes := #[t] }, rt, pos, aft, none⟩ :: rest) fr :=
  JL_pure _ (fun w => by
    obtain ⟨i, zv, hu, _⟩ := slOf_spec hs
    simp [execOp, resolve, invoke, builtin, hx.eq, Builtin.len_, run_underlying hu, goInt]) k
theorem JL_lenS {t rt : TypeId} {x : Operand} {s : ByteArray} (hs : P.underlying t = some .string) (hx : Ev fr x (.string s))
    (k : JL P ops Q w0 σ φ rest (upd fr d (.int .i64 s.size))) : JL P ops Q w0 σ φ (⟨some d, .call { callee := .builtin .len, args := #[x], argTypes := #[t] }, rt, pos, aft, none⟩ :: rest) fr :=
  JL_pure _ (fun w => by
    simp [execOp, resolve, invoke, builtin, hx.eq, Builtin.len_, run_underlying hs, goInt]) k
theorem JL_min {ts : Array TypeId} {rt : TypeId} {x y : Operand} {kk k' : IntKind} {a b : Int} (hx : Ev fr x (.int kk a)) (hy : Ev fr y (.int k' b))
    (k : JL P ops Q w0 σ φ rest (upd fr d (.int kk (if b < a then b else a)))) : JL P ops Q w0 σ φ (⟨some d, .call { callee := .builtin .min, args := #[x, y], argTypes := ts }, rt, pos, aft, none⟩ :: rest) fr :=
  JL_pure _ (fun w => by
    simp [execOp, resolve, invoke, builtin, hx.eq, hy.eq, Builtin.min_, Builtin.min2]) k
theorem JL_max {ts : Array TypeId} {rt : TypeId} {x y : Operand} {kk k' : IntKind} {a b : Int} (hx : Ev fr x (.int kk a)) (hy : Ev fr y (.int k' b))
    (k : JL P ops Q w0 σ φ rest (upd fr d (.int kk (if a < b then b else a)))) : JL P ops Q w0 σ φ (⟨some d, .call { callee := .builtin .max, args := #[x, y], argTypes := ts }, rt, pos, aft, none⟩ :: rest) fr :=
  JL_pure _ (fun w => by
    simp [execOp, resolve, invoke, builtin, hx.eq, hy.eq, Builtin.max_, Builtin.max2]) k
theorem JL_extract {x : Operand} {vs : Array Value} {i : Nat} {v : Value} (hx : Ev fr x (.tuple vs)) (hi : vs[i]? = some v)
    (k : JL P ops Q w0 σ φ rest (upd fr d v)) : JL P ops Q w0 σ φ (⟨some d, .extract x i, ty, pos, aft, none⟩ :: rest) fr :=
  JL_pure _ (fun w => by simp [execOp, hx.eq, Instr.extract, hi]) k
theorem JL_field {t : TypeId} {x : Operand} {f off n : Nat} {vs : List Value} {v : Value} (hf : fOf P t f = some off) (hT : ∀ fields fd, P.underlying t = some (.struct fields) → fields[f]? = some fd → tyOf P fd.type = some (false, n)) (hx : Ev fr x (.agg vs.toArray)) (hv : Nth vs off v)
    (k : JL P ops Q w0 σ φ rest (upd fr d v)) : JL P ops Q w0 σ φ (⟨some d, .field t x f, ty, pos, aft, none⟩ :: rest) fr := by
  refine JL_pure _ (fun w => ?_) k
  unfold fOf at hf
  split at hf
  · rename_i fields hu
    split at hf
    · rename_i fd hfd
      obtain ⟨ds, i, h1, h2, h3, h4⟩ := tyOf_spec (hT fields fd hu hfd)
      split at hf
      · split at hf
        · cases hf
        · simp at hf
          subst hf
          have hg := hv.get
          simp [execOp, hx.eq, Instr.field, run_underlying hu, hfd, asAgg, part, run_isAgg h1, h3, hg]
      · cases hf
    · cases hf
  · cases hf

/-! ### make, literals, append -/
theorem JL_make {t e : TypeId} {sz by' : Nat} {zs : List Value} {x y : Operand} {k1 k2 : IntKind} {a b : Int} (n c : Nat) (hs : slOf P t = some (e, sz, by', zs)) (hz : zs.length = sz) (hx : Ev fr x (.int k1 a)) (hy : Ev fr y (.int k2 b))
    (ha : a = (n : Int)) (hb : b = (c : Int)) (hnc : n ≤ c) (hbytes : by' * c ≤ 281474976710656) (hmax : c ≤ 9223372036854775807)
    (k : ∀ g, JL P ops Q w0 (σ ++ [osl (some ⟨g, 0, none⟩) n c e sz ((List.replicate n zs).flatten)]) φ rest (upd fr d (.slice (some ⟨g, 0, none⟩) n c))) :
    JL P ops Q w0 σ φ (⟨some d, .makeSlice t x y, ty, pos, aft, none⟩ :: rest) fr := by
  intro w s
  obtain ⟨i, zv, hu, hi, h1, h2, h3, h4⟩ := slOf_spec hs
  subst ha hb
  have hb2 : (i.bytes : Int) * (c : Int) ≤ 281474976710656 := by
    rw [h2]
    have h : ((by' * c : Nat) : Int) ≤ 281474976710656 := by omega
    rwa [Int.natCast_mul] at h
  have hr := run_make (P := P) w t e i zv hu hi h3 k1 k2 (n : Int) (c : Int) (by omega) (by omega) hb2 (by omega)
  simp only [Int.toNat_natCast, h1] at hr
  refine wpList_run rfl rfl (v := .slice (some ⟨w.heap.size, 0, none⟩) n c) (w' := w.alloc (.cells (madeCells zv.cells (c * sz)) e)) ?_ (k w.heap.size _ ?_)
  · simp [execOp, hx.eq, hy.eq, hr]
  · refine s.addRes _ (below_alloc w _) ?_ (fun k hk => by simp [osl, Value.ownBlock] at hk; omega)
    refine ⟨?_, .inr ⟨w.heap.size, c, _, rfl, Nat.zero_le _, heap_alloc_new w _, hnc, by simpa [maxLen] using hmax, size_madeCells _ _, ?_⟩⟩
    · simp [List.length_flatten, hz, List.sum_replicate_nat]
    · have hzl : zv.cells.size = sz := by rw [← hz, ← h4]; simp
      apply List.ext_getElem?
      intro j
      rw [List.getElem?_take]
      by_cases hj : j < n * sz
      · rw [if_pos hj]
        have hjc : j < c * sz := Nat.lt_of_lt_of_le hj (Nat.mul_le_mul_right _ hnc)
        have hsz : 0 < sz := by
          rcases Nat.eq_zero_or_pos sz with h | h
          · subst h; simp at hj
          · exact h
        have hmod : j % sz < sz := Nat.mod_lt _ hsz
        have e1 : (madeCells zv.cells (c * sz)).toList[j]? = some (zs[j % sz]'(by omega)) := by
          have hsome : zs[j % sz]'(by omega) = zv.cells[j % sz]'(by omega) := by
            simp only [← h4]; simp
          rw [hsome]
          simp [madeCells, hjc, hzl, getElem!_pos, hmod]
        rw [e1]
        have e2 : ∀ (n j : Nat), j < n * sz → ((List.replicate n zs).flatten)[j]? = zs[j % sz]? := by
          intro n
          induction n with
          | zero => intro j h; simp at h
          | succ n ih =>
            intro j h
            rw [List.replicate_succ, List.flatten_cons, List.getElem?_append, hz]
            split
            · rename_i hlt; rw [Nat.mod_eq_of_lt hlt]
            · rename_i hlt
              rw [ih (j - sz) (by rw [Nat.succ_mul] at h; omega)]
              congr 1
              exact (Nat.mod_eq_sub_mod (by omega)).symm
        rw [e2 n j hj, List.getElem?_eq_getElem (by omega)]
      · rw [if_neg hj, List.getElem?_eq_none]
        simp [List.length_flatten, hz, List.sum_replicate_nat]; omega

theorem JL_buildSlice {t e : TypeId} {sz by' len : Nat} {zs vs : List Value} {parts : Array (Nat × Operand)} {pv : List (Nat × Value)} (hs : slOf P t = some (e, sz, by', zs)) (hp : (parts.map fun (i, x) => (i, ev fr x)).toList = pv) (hsmall : len * sz ≤ 2 ^ 24) (hlm : len ≤ 16777216) (hlen : vs.length = len * sz)
    (hfill : Instr.fill (fun i => some (i * sz, sz)) ((Array.range (len * sz)).map (zs.toArray[· % zs.toArray.size]!)) pv = some vs.toArray)
    (k : ∀ g, JL P ops Q w0 (σ ++ [osl (some ⟨g, 0, none⟩) len len e sz vs]) φ rest (upd fr d (.slice (some ⟨g, 0, none⟩) len len))) :
    JL P ops Q w0 σ φ (⟨some d, .buildSlice t len parts, ty, pos, aft, none⟩ :: rest) fr := by
  intro w s
  obtain ⟨i, zv, hu, hi, h1, h2, h3, h4⟩ := slOf_spec hs
  have hzz : zv.cells = zs.toArray := by rw [← h4]
  refine wpList_run rfl rfl (v := .slice (some ⟨w.heap.size, 0, none⟩) len len) (w' := w.alloc (.cells vs.toArray e)) ?_ (k w.heap.size _ ?_)
  · have hns : ¬ (len * sz > 2 ^ 24) := by omega
    have hb : (Instr.buildSlice t len (parts.map fun (i, x) => (i, ev fr x))).run P w = .ok (.slice (some ⟨w.heap.size, 0, none⟩) len len) (w.alloc (.cells vs.toArray e)) := by
      generalize (parts.map fun (i, x) => (i, ev fr x)) = q at hp
      by_cases h0 : len * sz = 0
      · rw [h0, Array.range_zero', Array.map_empty] at hfill
        simp [Instr.buildSlice, run_underlying hu, sizeOf, typeInfo, hi, h1, h0, hp, hfill, newRow, Array.range_zero']
      · simp [Instr.buildSlice, run_underlying hu, sizeOf, typeInfo, hi, h1, h0, if_neg hns, zeroValue, h3, hzz, hp, newRow] at hfill ⊢
        simp [hfill]
    simp only [execOp, Sem.run_bind, hb, Result.andThen_ok, Sem.run_pure]
  · refine s.addRes _ (below_alloc w _) ?_ (fun k hk => by simp [osl, Value.ownBlock] at hk; omega)
    refine ⟨hlen, .inr ⟨w.heap.size, len, _, rfl, Nat.zero_le _, heap_alloc_new w _, Nat.le_refl _, ?_, by simp [hlen], ?_⟩⟩
    · simp only [maxLen]; omega
    · simp [← hlen]
end
end Go.Fw
