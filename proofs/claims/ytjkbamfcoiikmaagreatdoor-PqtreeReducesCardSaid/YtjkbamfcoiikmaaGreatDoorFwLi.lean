/- A region that draws its order, whose operations follow each other but for some that read what does not change: it is walked once, in the order in which it is written. -/
import Derived.Test.YtjkbamfcoiikmaaGreatDoorFwA
namespace Go.Fw
open Go Go.RowKit
/-- An operation that may stand anywhere: its place, its slot, its value, the slots (with what they hold) and the operations before it on whose values it leans. -/
structure VO where
  i : Nat
  d : Nat
  c : Value
  ks : List (Nat × Value)
  kg : List Nat
  vp : List Nat
instance : Inhabited VO := ⟨⟨0, 0, undef, [], [], []⟩⟩
def fixV (ps : List Nat) (V : List VO) (vals : Nat → Value) (p : Nat) : Value := bif ps.contains p then (V.getD p default).c else vals p
theorem LkL.of : ∀ (l : List Value) (t : Nat), LkL l t (lookL l t)
  | [], _ => rfl
  | _ :: _, 0 => rfl
  | _ :: l, t + 1 => LkL.of l t
theorem LkL.get {l : List Value} {t : Nat} {x : Value} (h : lookL l t = x) : LkL l t x := h ▸ LkL.of l t
theorem act_main (n : Nat) (b : List Value) (ds : List Nat) (vals : Nat → Value) (d : Nat) (x : Value) (hd : d ∉ ds) (hn : n ≤ b.length) : act (upd ⟨n, pends ds vals 0, b⟩ d x) = act ⟨n, pends ds vals 0, updV b d x⟩ := by
  unfold act upd
  congr 2
  apply List.map_congr_left
  intro t ht
  have ht : t < n := List.mem_range.1 ht
  show lkP ((d, x) :: pends ds vals 0) b t = lkP (pends ds vals 0) (updV b d x) t
  rw [lkP, lkP_pends, lkP_pends]
  by_cases h : d = t
  · subst h
    have hb : Nat.beq d d = true := Nat.beq_refl d
    rw [hb]
    have : ds.idxOf? d = none := by
      cases hx : ds.idxOf? d with
      | none => rfl
      | some j =>
        rw [List.idxOf?, List.findIdx?_eq_some_iff_getElem] at hx
        obtain ⟨hlt, h1, _⟩ := hx
        exact absurd (by have e : ds[j] = d := by simpa using h1
                         rw [← e]; exact List.getElem_mem hlt) hd
    rw [this]
    exact (lookL_updV_same b d x (by omega)).symm
  · have hb : Nat.beq d t = false := by
      cases hb : Nat.beq d t with
      | false => rfl
      | true => exact absurd (Nat.eq_of_beq_eq_true hb) h
    rw [hb]
    simp only [cond_false]
    cases ds.idxOf? t with
    | none => exact (lookL_updV_other b d t x h).symm
    | some j => rfl
def dstOf (l : List Oper) (k : Nat) : Nat := match l[k]? with
  | some o => o.dst.getD 0
  | none => 0
section
variable (P : Program) (l : List Oper) (Q : Exit → Act → World → Prop) (w0 : Ctx) (V : List VO) (D : List (Nat × Value)) (n : Nat)
abbrev VO.ds (V : List VO) : List Nat := V.map (·.d)
def DOk : List (Nat × Value) → Nat → Value → Prop
  | [], _, _ => True
  | (g, v) :: D, k, x => (bif Nat.beq g k then x = v else True) ∧ DOk D k x
/-- What stands behind an operation: what is to be shown of the others. -/
def NX (J : List Res → List (Bool × VP) → List Value → Prop) (k : Nat) (φ : List (Bool × VP)) (b : List Value) (fr : Fr) : Exit → Act → World → Prop :=
  fun e a w => e = .normal ∧ ∃ x σ' φ', a = act (upd fr (dstOf l k) x) ∧ DOk D k x ∧ St w0 w σ' φ' ∧ (∀ p ∈ φ, p ∈ φ') ∧ J σ' φ' (updV b (dstOf l k) x)
/-- What is to be shown of the operations in their order. -/
def JM : List (Nat × List Nat) → List Res → List (Bool × VP) → List Value → Prop
  | [], σ, φ, b => JL P l.toArray Q w0 σ φ [] ⟨n, pends (VO.ds V) (fun p => (V.getD p default).c) 0, b⟩
  | (k, ps) :: ms, σ, φ, b => ∀ vals : Nat → Value, JL P l.toArray (NX l w0 D (JM ms) k φ b ⟨n, pends (VO.ds V) (fixV ps V vals) 0, b⟩) w0 σ φ ((l.drop k).take 1) ⟨n, pends (VO.ds V) (fixV ps V vals) 0, b⟩
def NV (φ : List (Bool × VP)) (σ : List Res) (d : Nat) (c : Value) (fr : Fr) : Exit → Act → World → Prop := fun e a w => e = .normal ∧ a = act (upd fr d c) ∧ St w0 w σ φ
/-- What is to be shown of an operation that may stand anywhere. -/
def OV (φ : List (Bool × VP)) (v : VO) : Prop :=
  ∀ (σ : List Res) (φ' : List (Bool × VP)) (b : List Value) (vals : Nat → Value), (∀ p ∈ φ, p ∈ φ') → (∀ t x, (t, x) ∈ v.ks → LkL b t x) → (∀ g x, g ∈ v.kg → (g, x) ∈ D → LkL b (dstOf l g) x) →
    JL P l.toArray (NV w0 φ' σ v.d v.c ⟨n, pends (VO.ds V) (fixV v.vp V vals) 0, b⟩) w0 σ φ' ((l.drop v.i).take 1) ⟨n, pends (VO.ds V) (fixV v.vp V vals) 0, b⟩
end
theorem DOk.spec : ∀ {D : List (Nat × Value)} {k : Nat} {x : Value}, DOk D k x → ∀ v, (k, v) ∈ D → x = v
  | [], _, _, _, _, h => by cases h
  | (g, v0) :: D, k, x, h, v, hm => by
    rcases List.mem_cons.1 hm with e | hm
    · obtain ⟨rfl, rfl⟩ := Prod.mk.inj e
      have h1 := h.1
      rw [Nat.beq_refl] at h1; exact h1
    · exact DOk.spec h.2 v hm
theorem pends_congr : ∀ (ds : List Nat) (f g : Nat → Value) (k : Nat), (∀ j, j < ds.length → f (k + j) = g (k + j)) → pends ds f k = pends ds g k
  | [], _, _, _, _ => rfl
  | d :: ds, f, g, k, h => by
    rw [pends, pends, show f k = g k from h 0 (Nat.zero_lt_succ _), pends_congr ds f g (k + 1) fun j hj => by
      have := h (j + 1) (by simpa using hj)
      rwa [show k + (j + 1) = k + 1 + j from by omega] at this]
theorem fix_eq {V : List VO} {ps : List Nat} {vals : Nat → Value} (h : ∀ p v, p ∈ ps → V[p]? = some v → vals p = v.c) : pends (VO.ds V) (fixV ps V vals) 0 = pends (VO.ds V) vals 0 := by
  refine pends_congr _ _ _ _ fun j hj => ?_
  rw [Nat.zero_add]
  unfold fixV
  cases hc : ps.contains j with
  | false => rfl
  | true =>
    have hj' : j < V.length := by simpa using hj
    have e : V[j]? = some V[j] := List.getElem?_eq_getElem hj'
    show (V.getD j default).c = vals j
    rw [h j V[j] (by simpa using hc) e, List.getD_eq_getElem?_getD, e]; rfl
def chainOk (l : List Oper) : List Nat → Bool
  | [] => true
  | [_] => true
  | k :: k' :: ms => (directs l k').contains k && chainOk l (k' :: ms)
def predOk (l : List Oper) (V : List VO) (i : Nat) (ps : List Nat) : Bool := ps.all fun p => match V[p]? with | some v => (directs l i).contains v.i | none => true
theorem predOk_spec {l : List Oper} {V : List VO} {i : Nat} {ps : List Nat} (h : predOk l V i ps = true) : ∀ p v, p ∈ ps → V[p]? = some v → v.i ∈ directs l i := fun p v hp hv => by
  have := List.all_eq_true.1 h p hp
  rw [hv] at this
  simpa using this
def linOk (l : List Oper) (V : List VO) (D : List (Nat × Value)) (ms : List Nat) : Bool :=
  ((List.range l.length).all fun i => ms.contains i || (V.map (·.i)).contains i) &&
  ((List.range l.length).all fun i => (directs l i).all fun j => j < i) &&
  (V.map (·.i)).Nodup && (V.map (·.d)).Nodup && ms.Nodup && (V.all fun (v : VO) => !ms.contains v.i) && chainOk l ms &&
  ((List.range l.length).all fun i => match l[i]? with | some o => o.dst.isSome | none => true) &&
  (V.all fun (v : VO) => v.i < l.length && dstOf l v.i == v.d && (v.ks.all fun t => (List.range l.length).all fun i => dstOf l i != t.1) && v.kg.all fun g => ms.contains g && (directs l v.i).contains g) &&
  (ms.all fun k => k < l.length && !(V.map (·.d)).contains (dstOf l k) && ms.all fun k' => k == k' || dstOf l k != dstOf l k') &&
  (D.all fun g => ms.contains g.1)
structure LinOk (l : List Oper) (V : List VO) (ms : List Nat) : Prop where
  cover : ∀ i, i < l.length → i ∈ ms ∨ ∃ (p : Nat) (v : VO), V[p]? = some v ∧ v.i = i
  early : ∀ i, i < l.length → ∀ j ∈ directs l i, j < i
  vi : (V.map (·.i)).Nodup
  vd : (V.map (·.d)).Nodup
  mn : ms.Nodup
  sep : ∀ (p : Nat) (v : VO), V[p]? = some v → v.i ∉ ms
  ch : chainOk l ms = true
  dst : ∀ i o, l[i]? = some o → o.dst = some (dstOf l i)
  v : ∀ (p : Nat) (v : VO), V[p]? = some v → v.i < l.length ∧ dstOf l v.i = v.d ∧ (∀ t x, (t, x) ∈ v.ks → ∀ i, i < l.length → dstOf l i ≠ t) ∧ ∀ g ∈ v.kg, g ∈ ms ∧ g ∈ directs l v.i
  m : ∀ k ∈ ms, k < l.length ∧ dstOf l k ∉ V.map (·.d) ∧ ∀ k' ∈ ms, k ≠ k' → dstOf l k ≠ dstOf l k'
theorem linOk_spec {l : List Oper} {V : List VO} {D : List (Nat × Value)} {ms : List Nat} (h : linOk l V D ms = true) : LinOk l V ms := by
  unfold linOk at h
  simp only [Bool.and_eq_true, decide_eq_true_eq, List.all_eq_true, List.mem_range, Bool.or_eq_true, List.contains_iff_mem, Bool.not_eq_true', bne_iff_ne, beq_iff_eq] at h
  obtain ⟨⟨⟨⟨⟨⟨⟨⟨⟨⟨h1, h2⟩, h3⟩, h4⟩, h5⟩, h6⟩, h7⟩, h8⟩, h9⟩, h10⟩, _⟩ := h
  refine ⟨fun i hi => ?_, h2, h3, h4, h5, fun p v hv hm => ?_, h7, fun i o ho => ?_, fun p v hv => ?_, fun k hk => ?_⟩
  · rcases h1 i hi with h | h
    · exact .inl h
    · obtain ⟨v, hv, rfl⟩ := List.mem_map.1 h
      obtain ⟨p, hp⟩ := List.mem_iff_getElem?.1 hv
      exact .inr ⟨p, v, hp, rfl⟩
  · have := h6 v (List.mem_of_getElem? hv)
    rw [List.contains_iff_mem.2 hm] at this; cases this
  · have hlt := (List.getElem?_eq_some_iff.1 ho).1
    have := h8 i hlt
    rw [ho] at this
    have this : o.dst.isSome = true := this
    unfold dstOf
    rw [ho]
    obtain ⟨d, hd⟩ := Option.isSome_iff_exists.1 this
    show o.dst = some (o.dst.getD 0)
    rw [hd]; rfl
  · obtain ⟨⟨⟨a1, a2⟩, a3⟩, a4⟩ := h9 v (List.mem_of_getElem? hv)
    exact ⟨a1, a2, fun t x ht i hi => a3 (t, x) ht i hi, fun g hg => a4 g hg⟩
  · obtain ⟨⟨a1, a2⟩, a3⟩ := h10 k hk
    refine ⟨a1, fun hm => ?_, fun k' hk' hne => ?_⟩
    · rw [List.contains_iff_mem.2 hm] at a2; cases a2
    · exact (a3 k' hk').resolve_left hne
theorem chain_pred {l : List Oper} : ∀ {done rest : List Nat} {k : Nat}, chainOk l (done ++ rest) = true → k ∈ rest → rest.head? ≠ some k → ∃ j ∈ rest, j ∈ directs l k
  | _, [], _, _, h, _ => by cases h
  | [], k0 :: [], k, _, h, hne => absurd (by rw [List.mem_singleton.1 h]; rfl) hne
  | [], k0 :: k1 :: rest, k, hc, h, hne => by
    rw [List.nil_append, chainOk, Bool.and_eq_true] at hc
    rcases List.mem_cons.1 h with rfl | h
    · exact absurd rfl hne
    · by_cases e : k = k1
      · subst e
        exact ⟨k0, List.mem_cons_self, by simpa using hc.1⟩
      · obtain ⟨j, hj, hd⟩ := chain_pred (done := []) (rest := k1 :: rest) hc.2 h (by intro e'; exact e (by simpa using e'.symm))
        exact ⟨j, List.mem_cons_of_mem _ hj, hd⟩
  | d :: done, rest, k, hc, h, hne => by
    refine chain_pred (done := done) (rest := rest) ?_ h hne
    match done, rest, hc with
    | [], [], _ => rfl
    | [], r :: rest, hc => rw [List.cons_append, List.nil_append, chainOk, Bool.and_eq_true] at hc; exact hc.2
    | d' :: done, rest, hc => rw [List.cons_append, List.cons_append, chainOk, Bool.and_eq_true] at hc; exact hc.2
section
variable {P : Program} {Q : Exit → Act → World → Prop} {w0 : Ctx} {σ : List Res} {φ : List (Bool × VP)}
structure Lin (P : Program) (l : List Oper) (Q : Exit → Act → World → Prop) (w0 : Ctx) (V : List VO) (D : List (Nat × Value)) (n : Nat) (φ : List (Bool × VP)) (b0 : List Value) (ms : List Nat) (listed : Array Bool) (a : Act) (w : World)
    (done rest : List Nat) (vals : Nat → Value) (b : List Value) (σ' : List Res) (φ' : List (Bool × VP)) (rst : List (Nat × List Nat)) : Prop where
  map : rst.map (·.1) = rest
  ps : ∀ k q, (k, q) ∈ rst → predOk l V k q = true
  size : listed.size = l.length
  all : ms = done ++ rest
  yes : ∀ j ∈ done, listed.getD j false = true
  no : ∀ j ∈ rest, listed.getD j false = false
  fr : a = act ⟨n, pends (VO.ds V) vals 0, b⟩
  len : n ≤ b.length
  vs : ∀ (p : Nat) (v : VO), V[p]? = some v → listed.getD v.i false = true → vals p = v.c
  st : St w0 w σ' φ'
  sub : ∀ p ∈ φ, p ∈ φ'
  base : ∀ t, (∀ i, i < l.length → dstOf l i ≠ t) → lookL b t = lookL b0 t
  told : ∀ g x, g ∈ done → (g, x) ∈ D → lookL b (dstOf l g) = x
  go : JM P l Q w0 V D n rst σ' φ' b
theorem one_op {l : List Oper} {i : Nat} {o : Oper} (ho : l[i]? = some o) : (l.drop i).take 1 = [o] := by
  obtain ⟨hi, e⟩ := List.getElem?_eq_some_iff.1 ho
  rw [List.drop_eq_getElem_cons hi, e]; rfl
theorem JC_drawL (hm : P.follows .mixedOrders = true) {id n : Nat} {l : List Oper} {b : List Value} (V : List VO) (D : List (Nat × Value)) (mp : List (Nat × List Nat)) (hok : linOk l V D (mp.map (·.1)) = true) (hpm : (mp.all fun k => predOk l V k.1 k.2) = true) (hpv : (V.all fun v => predOk l V v.i v.vp) = true) (hn : n ≤ b.length) (hdb : ((List.range l.length).all fun i => dstOf l i < n) = true)
    (hks : ∀ v ∈ V, ∀ t x, (t, x) ∈ v.ks → lookL b t = x) (hV : ∀ v ∈ V, OV P l w0 V D n φ v) (hM : JM P l Q w0 V D n mp σ φ b) : JC P (.region id l.toArray true) Q w0 σ φ ⟨n, [], b⟩ := by
  intro w s
  have ok := linOk_spec hok
  have hdn : ∀ i, i < l.length → dstOf l i < n := fun i hi => by simpa using (List.all_eq_true.1 hdb) i (List.mem_range.2 hi)
  refine wp_region_any hm ?_
  let Inv : Array Bool → Act → World → Prop := fun listed a w => ∃ done rest vals b' σ' φ' rst, Lin P l Q w0 V D n φ b (mp.map (·.1)) listed a w done rest vals b' σ' φ' rst
  refine wpAny_inv Inv ?_ ?_ _ _ _ _ (by simp) (by simp [unl, List.countP_replicate]) ?_
  · rintro listed a w i ⟨done, rest, vals, b', σ', φ', rst, L⟩ hi
    obtain ⟨h1, h2, o, ho, h3⟩ := mem_ready hi
    have ho' : l[i]? = some o := by simpa using ho
    have hil : i < l.length := by simpa using h1
    have h4 : listed.getD i false = false := by have := L.size; simpa [Array.getD, h1, this, hil] using h2
    have hdir : ∀ j ∈ directs l i, listed.getD j false = true := by
      intro j hj
      obtain ⟨o2, e, ho2, he, hb, rfl⟩ := directs_inv hj
      obtain rfl : o = o2 := by rw [ho'] at ho2; simpa using ho2
      exact h3 e he hb
    have hss : (listed.setIfInBounds i true).size = l.length := by have := L.size; simpa using this
    have hfr := L.fr
    subst hfr
    unfold wpOp
    rw [ho]
    simp only
    rcases ok.cover i hil with hmain | ⟨p, v, hv, rfl⟩
    · -- the next one of those that follow each other
      have hrest : i ∈ rest := by
        rw [L.all] at hmain
        rcases List.mem_append.1 hmain with h | h
        · rw [L.yes i h] at h4; cases h4
        · exact h
      have hhead : rest.head? = some i := by
        refine Classical.byContradiction fun hne => ?_
        obtain ⟨j, hj, hd⟩ := chain_pred (done := done) (by rw [← L.all]; exact ok.ch) hrest hne
        have h5 := hdir j hd
        rw [L.no j hj] at h5; cases h5
      match rst, rest, L.map, hhead, L with
      | (k, ps) :: rst', _, rfl, hhead, L =>
        obtain rfl : k = i := by simpa using hhead
        have hps := predOk_spec (L.ps k ps List.mem_cons_self)
        have hgo := L.go vals w
        rw [fix_eq fun p v hp hv => L.vs p v hv (hdir v.i (hps p v hp hv))] at hgo
        have hgo := hgo L.st
        rw [one_op ho'] at hgo
        have hmem : k ∈ mp.map (·.1) := by rw [L.all]; exact List.mem_append_right _ List.mem_cons_self
        obtain ⟨_, hd2, hd3⟩ := ok.m k hmem
        have hnd : k ∉ done ∧ k ∉ rst'.map (·.1) := by
          have := ok.mn
          rw [L.all, List.nodup_append] at this
          obtain ⟨_, b1, b2⟩ := this
          exact ⟨fun hc => b2 k hc k List.mem_cons_self rfl, (List.nodup_cons.1 b1).1⟩
        refine wpList_one (fun c a w h => by cases h.1) (fun ⟨a, w, h⟩ => by cases h.1) hgo fun a2 w2 h => ?_
        obtain ⟨_, x, σ2, φ2, rfl, hD, hs2, hsub, hJ⟩ := h
        refine ⟨done ++ [k], rst'.map (·.1), vals, updV b' (dstOf l k) x, σ2, φ2, rst', rfl, fun k q h => L.ps k q (List.mem_cons_of_mem _ h), hss, by rw [L.all, List.append_assoc]; rfl, fun j hj => ?_, fun j hj => ?_, act_main n b' _ vals _ x hd2 L.len, by rw [length_updV]; exact L.len, fun p v hv hl => ?_, hs2, fun p hp => hsub p (L.sub p hp), fun t ht => ?_, fun g y hg hgD => ?_, hJ⟩
        · by_cases e : k = j
          · subst e; exact getD_set_same _ _ (by have := L.size; omega) _
          · rw [getD_set_other _ _ _ e]
            rcases List.mem_append.1 hj with hj | hj
            · exact L.yes j hj
            · exact absurd (List.mem_singleton.1 hj).symm e
        · rw [getD_set_other _ _ _ (fun e : k = j => hnd.2 (by rw [e]; exact hj))]
          exact L.no j (List.mem_cons_of_mem _ hj)
        · have hne : k ≠ v.i := fun e => ok.sep p v hv (e ▸ hmem)
          rw [getD_set_other _ _ _ hne] at hl
          exact L.vs p v hv hl
        · rw [lookL_updV_other _ _ _ _ (ht k hil)]
          exact L.base t ht
        · rcases List.mem_append.1 hg with hg | hg
          · have hne : k ≠ g := fun e => hnd.1 (e ▸ hg)
            rw [lookL_updV_other _ _ _ _ (hd3 g (by rw [L.all]; exact List.mem_append_left _ hg) hne)]
            exact L.told g y hg hgD
          · obtain rfl := List.mem_singleton.1 hg
            rw [lookL_updV_same _ _ _ (Nat.lt_of_lt_of_le (hdn g hil) L.len)]; exact hD.spec y hgD
    · -- one that may stand anywhere
      obtain ⟨a1, a2, a3, a4⟩ := ok.v p v hv
      have hO := hV v (List.mem_of_getElem? hv) σ' φ' b' vals L.sub (fun t x ht => LkL.get ((L.base t (a3 t x ht)).trans (hks v (List.mem_of_getElem? hv) t x ht))) (fun g x hg hgD => LkL.get (L.told g x (by
          have hmm := (a4 g hg).1
          rw [L.all] at hmm
          rcases List.mem_append.1 hmm with h | h
          · exact h
          · have := hdir g (a4 g hg).2
            rw [L.no g h] at this; cases this) hgD)) w
      have hpp := predOk_spec (List.all_eq_true.1 hpv v (List.mem_of_getElem? hv))
      rw [fix_eq fun q v' hq hv' => L.vs q v' hv' (hdir v'.i (hpp q v' hq hv'))] at hO
      have hO := hO L.st
      rw [one_op ho'] at hO
      refine wpList_one (fun c a w h => by cases h.1) (fun ⟨a, w, h⟩ => by cases h.1) hO fun a2 w2 h => ?_
      obtain ⟨_, rfl, hs2⟩ := h
      refine ⟨done, rest, setV vals p v.c, b', σ', φ', rst, L.map, L.ps, hss, L.all, fun j hj => ?_, fun j hj => ?_, act_pends_put n b' _ ok.vd vals p v.d (by rw [List.getElem?_map, hv]; rfl) v.c, L.len, fun q v' hv' hl => ?_, hs2, L.sub, L.base, L.told, L.go⟩
      · have hne : v.i ≠ j := fun e => ok.sep p v hv (by rw [e, L.all]; exact List.mem_append_left _ hj)
        rw [getD_set_other _ _ _ hne]; exact L.yes j hj
      · have hne : v.i ≠ j := fun e => ok.sep p v hv (by rw [e, L.all]; exact List.mem_append_right _ hj)
        rw [getD_set_other _ _ _ hne]; exact L.no j hj
      · unfold setV
        by_cases e : q = p
        · subst e
          rw [if_pos rfl]
          rw [hv] at hv'
          rw [Option.some.inj hv']
        · rw [if_neg e]
          refine L.vs q v' hv' ?_
          have hne : v.i ≠ v'.i := fun e2 => e (by
            have hp := (List.getElem?_eq_some_iff.1 hv).1
            have hq := (List.getElem?_eq_some_iff.1 hv').1
            refine (List.getElem_inj (h₀ := by rw [List.length_map]; exact hq) (h₁ := by rw [List.length_map]; exact hp) ok.vi).1 ?_
            rw [List.getElem_map, List.getElem_map, (List.getElem?_eq_some_iff.1 hv).2, (List.getElem?_eq_some_iff.1 hv').2]
            exact e2.symm)
          rwa [getD_set_other _ _ _ hne] at hl
  · rintro listed a w ⟨done, rest, vals, b', σ', φ', rst, L⟩ hr
    have hall : ∀ i, i < l.length → listed.getD i false = true := by
      intro i
      induction i using Nat.strongRecOn with
      | _ i ih =>
        intro hi
        cases hl : listed.getD i false with
        | true => rfl
        | false =>
          exfalso
          have : i ∈ Region.ready .any l.toArray listed := by
            refine ready_of (o := l[i]) (by simp [hi]) (by have := L.size; simpa [Array.getD, this, hi] using hl) ?_
            intro e he hb
            have hdir := directs_spec (l := l) (i := i) (List.getElem?_eq_getElem hi) he hb
            have := ok.early i hi _ hdir
            exact ih e.on this (by omega)
          rw [hr] at this
          cases this
    match rst, rest, L.map, L with
    | [], _, rfl, L =>
      have hfr := L.fr
      subst hfr
      have hgo := L.go w
      rw [show pends (VO.ds V) (fun p => (V.getD p default).c) 0 = pends (VO.ds V) vals 0 from pends_congr _ _ _ _ fun j hj => by
        rw [Nat.zero_add]
        have hj' : j < V.length := by simpa using hj
        have e : V[j]? = some V[j] := List.getElem?_eq_getElem hj'
        rw [L.vs j _ e (hall _ (ok.v j _ e).1), List.getD_eq_getElem?_getD, e]; rfl] at hgo
      exact hgo L.st
    | (k, ps) :: rst', _, rfl, L =>
      have h5 := L.no k List.mem_cons_self
      rw [hall k (ok.m k (by rw [L.all]; exact List.mem_append_right _ List.mem_cons_self)).1] at h5
      cases h5
  · have hrep' : ∀ i, (Array.replicate l.toArray.size false).getD i false = false := fun i => by simp [Array.getD]
    exact ⟨[], mp.map (·.1), fun i => lookL b ((VO.ds V).getD i 0), b, σ, φ, mp, rfl, fun k q h => List.all_eq_true.1 hpm (k, q) h, by simp, rfl, fun _ h => (by cases h), fun j _ => hrep' j, (act_pends_start n b _).symm, hn, fun p v _ h => (by rw [hrep'] at h; cases h), s.ext ((Below.refl _ _).drew), fun _ h => h, fun _ _ => rfl, fun _ _ h => (by cases h), hM⟩
theorem JM_cons {l : List Oper} {V : List VO} {D : List (Nat × Value)} {n k : Nat} {ps : List Nat} {ms : List (Nat × List Nat)} {b : List Value} (frf : (Nat → Value) → Fr) (hf : ∀ vals, (⟨n, pends (VO.ds V) (fixV ps V vals) 0, b⟩ : Fr) = frf vals)
    (h : ∀ vals, JL P l.toArray (NX l w0 D (JM P l Q w0 V D n ms) k φ b (frf vals)) w0 σ φ ((l.drop k).take 1) (frf vals)) : JM P l Q w0 V D n ((k, ps) :: ms) σ φ b := fun vals => by
  rw [hf vals]; exact h vals
theorem OV_mk {l : List Oper} {V : List VO} {D : List (Nat × Value)} {n : Nat} {v : VO} (frf : (Nat → Value) → List Value → Fr) (hf : ∀ vals b, (⟨n, pends (VO.ds V) (fixV v.vp V vals) 0, b⟩ : Fr) = frf vals b)
    (h : ∀ (σ : List Res) (φ' : List (Bool × VP)) (b : List Value) (vals : Nat → Value), (∀ p ∈ φ, p ∈ φ') → (∀ t x, (t, x) ∈ v.ks → LkL b t x) → (∀ g x, g ∈ v.kg → (g, x) ∈ D → LkL b (dstOf l g) x) → JL P l.toArray (NV w0 φ' σ v.d v.c (frf vals b)) w0 σ φ' ((l.drop v.i).take 1) (frf vals b)) : OV P l w0 V D n φ v := fun σ φ' b vals h1 h2 h3 => by
  rw [hf vals b]; exact h σ φ' b vals h1 h2 h3
theorem JL_lin {l : List Oper} {D : List (Nat × Value)} {J : List Res → List (Bool × VP) → List Value → Prop} {k : Nat} {b b' : List Value} {fr fr' : Fr} {ops : Array Oper} {σ' : List Res} {φ' : List (Bool × VP)} (d : Nat) (x : Value) (hk : dstOf l k = d) (hfr : fr' = upd fr d x) (hD : DOk D k x) (hsub : ∀ p ∈ φ, p ∈ φ') (h : J σ' φ' b') (hb : flatP [(d, x)] b = b' := by simp only [nrmF]; rfl) : JL P ops (NX l w0 D J k φ b fr) w0 σ' φ' [] fr' := fun w s =>
  ⟨rfl, x, σ', φ', by rw [hfr, hk], hD, s, hsub, by rw [hk]; show J σ' φ' (flatP [(d, x)] b); rw [hb]; exact h⟩
theorem JL_linV {c : Value} {d : Nat} {fr fr' : Fr} {ops : Array Oper} {φ' : List (Bool × VP)} (hfr : fr' = upd fr d c) : JL P ops (NV w0 φ' σ d c fr) w0 σ φ' [] fr' := fun _ s => ⟨rfl, by rw [hfr], s⟩
theorem JM_nil {l : List Oper} {V : List VO} {D : List (Nat × Value)} {n : Nat} {b : List Value} (fr : Fr) (hfr : fr = ⟨n, pends (VO.ds V) (fun p => (V.getD p default).c) 0, b⟩) (h : JL P l.toArray Q w0 σ φ [] fr) : JM P l Q w0 V D n [] σ φ b := by
  subst hfr; exact h
theorem JM_nm {l : List Oper} {V : List VO} {D : List (Nat × Value)} {n : Nat} {ms : List (Nat × List Nat)} {b : List Value} (σ' : List Res) (φ' : List (Bool × VP)) (h : JM P l Q w0 V D n ms σ' φ' b) (h2 : σ' = σ := by exact rfl) (h3 : φ' = φ := by exact rfl) : JM P l Q w0 V D n ms σ φ b := by
  subst h2 h3; exact h
end
end Go.Fw
