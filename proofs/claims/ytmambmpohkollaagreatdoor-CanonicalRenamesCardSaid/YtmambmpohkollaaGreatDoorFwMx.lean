/- What a pruned group of templates leaves out, for the texts that need it. -/
import Derived.Test.YtmambmpohkollaaGreatDoorFwMN
import Derived.Maps.Keyed
import Derived.Maps.RangeRun
import Derived.RangeFuncBox
import Derived.OwnWalkIn
namespace Go.Fw
open Go Go.RowKit

/-! ## Lists of keys with values -/
section plain
variable {α β : Type}
variable {ek : α → Value} {ev : β → Value}
theorem mE_length : ∀ (l : List (α × β)) (n : Nat), (mE ek ev l n).length = l.length
  | [], _ => rfl
  | _ :: l, n => by rw [mE, List.length_cons, mE_length l, List.length_cons]
theorem mE_push : ∀ (l : List (α × β)) (n : Nat) (p : α × β), mE ek ev (l ++ [p]) n = mE ek ev l n ++ [⟨ek p.1, ev p.2, n + l.length⟩]
  | [], _, _ => rfl
  | q :: l, n, p => by rw [List.cons_append, mE, mE_push l, mE, List.cons_append, List.length_cons, show n + 1 + l.length = n + (l.length + 1) from by omega]
theorem mE_set (l : List (α × β)) (n j : Nat) (k : α) (v v' : β) (h : l[j]? = some (k, v)) : (mE ek ev l n).set j ⟨ek k, ev v', n + j⟩ = mE ek ev (l.set j (k, v')) n := by
  apply List.ext_getElem?
  intro i
  rw [List.getElem?_set, mE_get, mE_get, List.getElem?_set, mE_length]
  by_cases hij : j = i
  · subst hij
    have := (List.getElem?_eq_some_iff.1 h).1
    simp [this]
  · simp [hij]
variable [DecidableEq α]
def getM (d : β) (k : α) : List (α × β) → β
  | [] => d
  | p :: l => if p.1 = k then p.2 else getM d k l
def setM (k : α) (v : β) : List (α × β) → List (α × β)
  | [] => [(k, v)]
  | p :: l => if p.1 = k then (k, v) :: l else p :: setM k v l
theorem getM_none {d : β} {k : α} : ∀ {l : List (α × β)}, (∀ p ∈ l, p.1 ≠ k) → getM d k l = d
  | [], _ => rfl
  | p :: l, h => by rw [getM, if_neg (h p List.mem_cons_self), getM_none fun q hq => h q (List.mem_cons_of_mem _ hq)]
theorem setM_none {k : α} {v : β} : ∀ {l : List (α × β)}, (∀ p ∈ l, p.1 ≠ k) → setM k v l = l ++ [(k, v)]
  | [], _ => rfl
  | p :: l, h => by rw [setM, if_neg (h p List.mem_cons_self), setM_none fun q hq => h q (List.mem_cons_of_mem _ hq)]; rfl
theorem getM_some {d : β} {k : α} {v : β} : ∀ {l : List (α × β)} {j : Nat}, (l.map (·.1)).Nodup → l[j]? = some (k, v) → getM d k l = v
  | [], _, _, h => by simp at h
  | p :: l, 0, _, h => by simp at h; subst h; simp [getM]
  | p :: l, j + 1, hn, h => by
    have hn' := List.nodup_cons.1 hn
    have hm : (k, v) ∈ l := List.mem_of_getElem? (by simpa using h)
    have hne : p.1 ≠ k := fun e => hn'.1 (by show p.1 ∈ _; rw [e]; exact List.mem_map.2 ⟨_, hm, rfl⟩)
    rw [getM, if_neg hne]
    exact getM_some (l := l) (j := j) hn'.2 (by simpa using h)
theorem setM_some {k : α} {v v' : β} : ∀ {l : List (α × β)} {j : Nat}, (l.map (·.1)).Nodup → l[j]? = some (k, v) → setM k v' l = l.set j (k, v')
  | [], _, _, h => by simp at h
  | p :: l, 0, _, h => by simp at h; subst h; simp [setM]
  | p :: l, j + 1, hn, h => by
    have hn' := List.nodup_cons.1 hn
    have hm : (k, v) ∈ l := List.mem_of_getElem? (by simpa using h)
    have hne : p.1 ≠ k := fun e => hn'.1 (by show p.1 ∈ _; rw [e]; exact List.mem_map.2 ⟨_, hm, rfl⟩)
    rw [setM, if_neg hne, List.set_cons_succ]
    rw [setM_some (l := l) (j := j) hn'.2 (by simpa using h)]
theorem setM_keys {k : α} {v : β} : ∀ l : List (α × β), (setM k v l).map (·.1) = if k ∈ l.map (·.1) then l.map (·.1) else l.map (·.1) ++ [k]
  | [] => by simp [setM]
  | p :: l => by
    rw [setM]
    by_cases h : p.1 = k
    · simp [h]
    · rw [if_neg h, List.map_cons, setM_keys l]
      by_cases h2 : k ∈ l.map (·.1)
      · rw [if_pos h2, if_pos (by simp at h2 ⊢; exact .inr h2)]; rfl
      · rw [if_neg h2, if_neg (by simp at h2 ⊢; exact ⟨fun e => h e.symm, h2⟩)]; rfl
theorem setM_nodup {k : α} {v : β} {l : List (α × β)} (h : (l.map (·.1)).Nodup) : ((setM k v l).map (·.1)).Nodup := by
  rw [setM_keys]
  split
  · exact h
  · rename_i hk
    refine List.nodup_append.2 ⟨h, by simp, fun a ha b hb e => ?_⟩
    simp only [List.mem_singleton] at hb
    subst hb e
    exact hk ha
theorem getM_setM {d : β} {k k' : α} {v : β} : ∀ {l : List (α × β)}, getM d k' (setM k v l) = if k = k' then v else getM d k' l
  | [] => by simp [setM, getM]
  | p :: l => by
    rw [setM]
    by_cases h : p.1 = k
    · rw [if_pos h]
      by_cases h2 : k = k'
      · simp [getM, h2]
      · simp [getM, h, h2]
    · rw [if_neg h, getM, getM_setM]
      by_cases h2 : k = k'
      · subst h2; simp [h]
      · simp [h2, getM]
theorem setM_setM {k : α} {v v' : β} : ∀ {l : List (α × β)}, setM k v' (setM k v l) = setM k v' l
  | [] => by simp [setM]
  | p :: l => by
    by_cases h : p.1 = k
    · simp [setM, h]
    · simp [setM, h, setM_setM]
end plain

/-! ## A map's block -/
def vMap (b : Nat) (es : List MapEntry) (c : Nat) : VP := ⟨fun X w => ¬ X b ∧ w.heap[b]? = some (.map es.toArray c), fun X X' w w' h hs hb hx => by
  have hlt := (Array.getElem?_eq_some_iff.1 h.2).1
  exact ⟨fun h' => h.1 (hx b hlt h'), (hb b hlt h.1).trans h.2⟩⟩
def zvOf (P : Program) (T : TypeId) : Option Value := (P.info? T).bind (·.zero)
theorem run_zv {P : Program} {T : TypeId} {v : Value} (h : zvOf P T = some v) (w : World) : (zeroValue T).run P w = .ok v w := by
  unfold zvOf at h
  cases hi : P.info? T with
  | none => simp [hi] at h
  | some i => simp [hi] at h; simp [zeroValue, typeInfo, hi, h]
abbrev bv (b : Bool) : Value := .bool b
section
variable {α β : Type} {ek : α → Value} {ev' : β → Value} {P : Program} {kt : TypeId} {l : List (α × β)}
theorem mE_at {j : Nat} {a : α} {v : β} (h : l[j]? = some (a, v)) : (mE ek ev' l 0)[j]? = some ⟨ek a, ev' v, j⟩ := by rw [mE_get, h]; simp
theorem KeyT.find_mE (K : KeyT P kt ek) (w : World) (a : α) :
    ((Instr.findKey kt (ek a) (mE ek ev' l 0)).run P w = .ok none w ∧ (∀ p ∈ l, p.1 ≠ a)) ∨
    ∃ j v, (Instr.findKey kt (ek a) (mE ek ev' l 0)).run P w = .ok (some (j, ev' v)) w ∧ l[j]? = some (a, v) := by
  rcases K.find w a (mE ek ev' l 0) (fun e he => by obtain ⟨j, p, _, rfl⟩ := mE_mem he; exact ⟨p.1, rfl⟩) with ⟨h1, h2⟩ | ⟨j, e, h1, h2, h3⟩
  · refine .inl ⟨h1, fun p hp e => ?_⟩
    obtain ⟨j, hj⟩ := List.mem_iff_getElem?.1 hp
    exact h2 ⟨ek p.1, ev' p.2, 0 + j⟩ (List.mem_of_getElem? (i := j) (by rw [mE_get, hj]; rfl)) (by rw [e])
  · rw [mE_get] at h2
    cases hp : l[j]? with
    | none => rw [hp] at h2; cases h2
    | some p =>
      rw [hp] at h2
      obtain rfl := (Option.some.inj h2)
      obtain ⟨a', v⟩ := p
      obtain rfl : a' = a := K.inj h3
      exact .inr ⟨j, v, h1, hp⟩
end

/-! ## The operations -/
section
variable {P : Program} {Q : Exit → Act → World → Prop} {w0 : Ctx} {σ σ' : List Res} {φ φ' : List (Bool × VP)} {fr : Fr} {ops : Array Oper} {rest : List Oper}
  {d : Nat} {ty : TypeId} {pos : String} {aft : Array Edge}
theorem St.addMap {w : World} (s : St w0 w σ φ) : St w0 (w.alloc (.map #[] 0)) (σ ++ [mapR w.heap.size [] 0]) φ :=
  s.addRes (mapR w.heap.size [] 0) (below_alloc w _) (heap_alloc_new w _) (fun k hk => by simp [mapR] at hk; omega)
theorem St.giveMap {w : World} {b c : Nat} {es : List MapEntry} (s : St w0 w σ φ) (i : Nat) (hi : Nth σ i (mapR b es c)) : St w0 w (σ.eraseIdx i) ((true, vMap b es c) :: φ) := by
  have hilt : i < σ.length := (List.getElem?_eq_some_iff.1 hi.get).1
  have hget : σ[i] = mapR b es c := by have := hi.get; rw [List.getElem?_eq_getElem hilt] at this; simpa using this
  refine (s.dropRes (List.eraseIdx_sublist _ _)).addView ⟨?_, s.own _ hi.mem⟩
  have hkey : (mapR b es c).key = some b := rfl
  rintro (⟨r, hr, hrk⟩ | ⟨_, hlt⟩)
  · obtain ⟨m, hm, rfl⟩ := List.mem_iff_getElem.1 hr
    have hd := List.pairwise_iff_getElem.1 s.dist
    rw [List.getElem_eraseIdx] at hrk
    have hlen : (σ.eraseIdx i).length = σ.length - 1 := List.length_eraseIdx_of_lt hilt
    split at hrk
    · rename_i hmi
      exact hd m i (by omega) hilt hmi b hrk (by rw [hget]; exact hkey)
    · rename_i hmi
      exact hd i (m + 1) hilt (by omega) (by omega) b (by rw [hget]; exact hkey) hrk
  · have := s.fresh _ hi.mem b hkey
    have := w0.hY b hlt
    omega
theorem JL_giveMap {lo : List Oper} {b c : Nat} {es : List MapEntry} (i : Nat) (hi : Nth σ i (mapR b es c)) (k : JL P ops Q w0 (σ.eraseIdx i) ((true, vMap b es c) :: φ) lo fr) : JL P ops Q w0 σ φ lo fr := JL_conv (fun _ s => s.giveMap i hi) k
theorem JC_giveMap {cd : Code} {b c : Nat} {es : List MapEntry} (i : Nat) (hi : Nth σ i (mapR b es c)) (k : JC P cd Q w0 (σ.eraseIdx i) ((true, vMap b es c) :: φ) fr) : JC P cd Q w0 σ φ fr := JC_conv (fun _ s => s.giveMap i hi) k
theorem JL_makeMap {t : TypeId} (k : ∀ b, JL P ops Q w0 (σ ++ [mapR b [] 0]) φ rest (upd fr d (.map (some b)))) : JL P ops Q w0 σ φ (⟨some d, .makeMap t none, ty, pos, aft, none⟩ :: rest) fr :=
  fun w s => wpList_run rfl rfl (v := .map (some w.heap.size)) (w' := w.alloc (.map #[] 0)) (by simp [execOp, Instr.makeMap]) (k w.heap.size _ s.addMap)
variable {α β : Type} [DecidableEq α] {ek : α → Value} {ev' : β → Value} {t kt et : TypeId} {l : List (α × β)} {b : Nat}
theorem run_lookup {a : α} {dv : β} {c : Nat} {w : World} (ht : P.underlying t = some (.map kt et)) (K : KeyT P kt ek) (hz : zvOf P et = some (ev' dv)) (hb : w.heap[b]? = some (.map (mE ek ev' l 0).toArray c)) (hn : (l.map (·.1)).Nodup) :
    (Instr.lookup t (.map (some b)) (ek a) false).run P w = .ok (ev' (getM dv a l)) w := by
  rcases K.find_mE (ev' := ev') (l := l) w a with ⟨h1, h2⟩ | ⟨j, v, h1, h2⟩
  · simp [Instr.lookup, run_underlying ht, MapKept.run_getObj_map hb, K.check, h1, run_zv hz, getM_none h2, Result.andThen]
  · simp [Instr.lookup, run_underlying ht, MapKept.run_getObj_map hb, K.check, h1, getM_some hn h2, Result.andThen]
theorem JL_lookup {x y : Operand} {a : α} {dv : β} {c : Nat} (i : Nat) (ht : P.underlying t = some (.map kt et)) (K : KeyT P kt ek) (hz : zvOf P et = some (ev' dv)) (hn : (l.map (·.1)).Nodup)
    (hx : Ev fr x (.map (some b))) (hy : Ev fr y (ek a)) (hσ : Nth σ i (mapR b (mE ek ev' l 0) c)) (k : JL P ops Q w0 σ φ rest (upd fr d (ev' (getM dv a l)))) :
    JL P ops Q w0 σ φ (⟨some d, .lookup t x y false, ty, pos, aft, none⟩ :: rest) fr :=
  JL_pureSt _ (fun w s => by simp [execOp, hx.eq, hy.eq, run_lookup ht K hz (s.own _ hσ.mem) hn]) k
theorem JL_lookupV {x y : Operand} {a : α} {dv : β} {c : Nat} {f : Bool} (ht : P.underlying t = some (.map kt et)) (K : KeyT P kt ek) (hz : zvOf P et = some (ev' dv)) (hn : (l.map (·.1)).Nodup)
    (hx : Ev fr x (.map (some b))) (hy : Ev fr y (ek a)) (hσ : (f, vMap b (mE ek ev' l 0) c) ∈ φ) (k : JL P ops Q w0 σ φ rest (upd fr d (ev' (getM dv a l)))) :
    JL P ops Q w0 σ φ (⟨some d, .lookup t x y false, ty, pos, aft, none⟩ :: rest) fr :=
  JL_pureSt _ (fun w s => by simp [execOp, hx.eq, hy.eq, run_lookup ht K hz (s.views _ hσ).2 hn]) k
theorem modify_at : ∀ {es : List MapEntry} {j : Nat} {e : MapEntry}, es[j]? = some e → ∀ f : MapEntry → MapEntry, es.modify j f = es.set j (f e)
  | [], _, _, h, _ => by simp at h
  | x :: es, 0, _, h, f => by simp at h; subst h; simp
  | x :: es, j + 1, _, h, f => by rw [List.modify_succ_cons, List.set_cons_succ, modify_at (by simpa using h)]
theorem run_mapUpdate {a : α} {v : β} {w : World} (ht : P.underlying t = some (.map kt et)) (K : KeyT P kt ek) (hb : w.heap[b]? = some (.map (mE ek ev' l 0).toArray l.length)) (hn : (l.map (·.1)).Nodup) :
    (Instr.mapUpdate t (.map (some b)) (ek a) (ev' v)).run P w = .ok () (ChangeMaps.setBlock w b (.map (mE ek ev' (setM a v l) 0).toArray (setM a v l).length)) := by
  rcases K.find_mE (ev' := ev') (l := l) w a with ⟨h1, h2⟩ | ⟨j, v', h1, h2⟩
  · rw [setM_none h2, mE_push]
    simp [Instr.mapUpdate, run_underlying ht, MapKept.run_getObj_map hb, K.check, h1, MapKept.run_setObj_map _ hb, Result.andThen, ChangeMaps.setBlock]
  · have h3 := mE_at (ek := ek) (ev' := ev') h2
    rw [setM_some hn h2]
    simp [Instr.mapUpdate, run_underlying ht, MapKept.run_getObj_map hb, K.check, h1, MapKept.run_setObj_map _ hb, Result.andThen, h3, K.stays, modify_at h3, ChangeMaps.setBlock, ← mE_set l 0 j a v' v h2]
theorem JL_mapUpdate {x y z : Operand} {a : α} {v : β} (i : Nat) (ht : P.underlying t = some (.map kt et)) (K : KeyT P kt ek) (hn : (l.map (·.1)).Nodup)
    (hx : Ev fr x (.map (some b))) (hy : Ev fr y (ek a)) (hv : Ev fr z (ev' v)) (hσ : Nth σ i (mapR b (mE ek ev' l 0) l.length))
    (k : JL P ops Q w0 (updL σ i (mapR b (mE ek ev' (setM a v l) 0) (setM a v l).length)) φ rest fr) :
    JL P ops Q w0 σ φ (⟨none, .mapUpdate t x y z, ty, pos, aft, none⟩ :: rest) fr :=
  fun w s => wpList_run0 rfl rfl (w' := _) (by simp [execOp, hx.eq, hy.eq, hv.eq, run_mapUpdate ht K (s.own _ hσ.mem) hn]) (k _ (s.setMap _ _ hσ))
/-- The place of a key, where it stands or will stand. -/
def idxM (k : α) : List (α × β) → Nat
  | [] => 0
  | p :: l => if p.1 = k then 0 else idxM k l + 1
theorem idxM_none {k : α} : ∀ {l : List (α × β)}, (∀ p ∈ l, p.1 ≠ k) → idxM k l = l.length
  | [], _ => rfl
  | p :: l, h => by rw [idxM, if_neg (h p List.mem_cons_self), idxM_none fun q hq => h q (List.mem_cons_of_mem _ hq)]; rfl
theorem idxM_some {k : α} {v : β} : ∀ {l : List (α × β)} {j : Nat}, (l.map (·.1)).Nodup → l[j]? = some (k, v) → idxM k l = j
  | [], _, _, h => by simp at h
  | p :: l, 0, _, h => by simp at h; subst h; simp [idxM]
  | p :: l, j + 1, hn, h => by
    have hn' := List.nodup_cons.1 hn
    have hm : (k, v) ∈ l := List.mem_of_getElem? (by simpa using h)
    have hne : p.1 ≠ k := fun e => hn'.1 (by show p.1 ∈ _; rw [e]; exact List.mem_map.2 ⟨_, hm, rfl⟩)
    rw [idxM, if_neg hne, idxM_some (l := l) (j := j) hn'.2 (by simpa using h)]
theorem run_mapEntry {a : α} {dv : β} {w : World} (ht : P.underlying t = some (.map kt et)) (K : KeyT P kt ek) (hz : zvOf P et = some (ev' dv)) (hb : w.heap[b]? = some (.map (mE ek ev' l 0).toArray l.length)) (hn : (l.map (·.1)).Nodup) :
    (Instr.mapEntry t (.map (some b)) (ek a)).run P w = .ok (.tuple #[ev' (getM dv a l), goInt (idxM a l)]) (ChangeMaps.setBlock w b (.map (mE ek ev' (setM a (getM dv a l) l) 0).toArray (setM a (getM dv a l) l).length)) := by
  rcases K.find_mE (ev' := ev') (l := l) w a with ⟨h1, h2⟩ | ⟨j, v', h1, h2⟩
  · rw [setM_none h2, mE_push, getM_none h2, idxM_none h2]
    simp [Instr.mapEntry, run_underlying ht, MapKept.run_getObj_map hb, K.check, h1, run_zv hz, MapKept.run_setObj_map _ hb, Result.andThen, ChangeMaps.setBlock]
  · have h3 := mE_at (ek := ek) (ev' := ev') h2
    rw [getM_some hn h2, setM_some hn h2, idxM_some hn h2]
    simp [Instr.mapEntry, run_underlying ht, MapKept.run_getObj_map hb, K.check, h1, MapKept.run_setObj_map _ hb, Result.andThen, h3, K.stays, modify_at h3, ChangeMaps.setBlock, ← mE_set l 0 j a v' v' h2]
theorem JL_mapEntry {x y : Operand} {a : α} {dv : β} (i : Nat) (ht : P.underlying t = some (.map kt et)) (K : KeyT P kt ek) (hz : zvOf P et = some (ev' dv)) (hn : (l.map (·.1)).Nodup)
    (hx : Ev fr x (.map (some b))) (hy : Ev fr y (ek a)) (hσ : Nth σ i (mapR b (mE ek ev' l 0) l.length))
    (k : JL P ops Q w0 (updL σ i (mapR b (mE ek ev' (setM a (getM dv a l) l) 0) (setM a (getM dv a l) l).length)) φ rest (upd fr d (.tuple #[ev' (getM dv a l), goInt (idxM a l)]))) :
    JL P ops Q w0 σ φ (⟨some d, .mapEntry t x y, ty, pos, aft, none⟩ :: rest) fr :=
  fun w s => wpList_run rfl rfl (w' := _) (v := _) (by simp [execOp, hx.eq, hy.eq, run_mapEntry ht K hz (s.own _ hσ.mem) hn]) (k _ (s.setMap _ _ hσ))
theorem idxM_setM {k : α} {v : β} : ∀ l : List (α × β), idxM k (setM k v l) = idxM k l
  | [] => by simp [setM, idxM]
  | p :: l => by
    by_cases h : p.1 = k
    · simp [setM, idxM, h]
    · simp [setM, idxM, h, idxM_setM l]
theorem at_idxM {k : α} {v : β} : ∀ l : List (α × β), (setM k v l)[idxM k l]? = some (k, v)
  | [] => by simp [setM, idxM]
  | p :: l => by
    by_cases h : p.1 = k
    · simp [setM, idxM, h]
    · simp [setM, idxM, h, at_idxM l]
omit [DecidableEq α] in
theorem findIdx_mE : ∀ (l : List (α × β)) (n j : Nat), j < l.length → (mE ek ev' l n).findIdx? (fun e => (e.born : Int) == ((n + j : Nat) : Int)) = some j
  | [], _, _, h => by simp at h
  | p :: l, n, 0, _ => by simp [mE, List.findIdx?_cons]
  | p :: l, n, j + 1, h => by
    rw [mE, List.findIdx?_cons]
    have hne : (((n : Nat) : Int) == ((n + (j + 1) : Nat) : Int)) = false := by
      rw [beq_eq_false_iff_ne]; omega
    simp only [hne]
    have ih := findIdx_mE l (n + 1) j (by simpa using h)
    rw [show n + (j + 1) = n + 1 + j from by omega, ih]; rfl
theorem run_entryStore {a : α} {v0 v : β} {w : World} (hb : w.heap[b]? = some (.map (mE ek ev' (setM a v0 l) 0).toArray (setM a v0 l).length)) (hn : (l.map (·.1)).Nodup) :
    (Instr.entryStore t (.map (some b)) (goInt (idxM a l)) (ev' v)).run P w = .ok () (ChangeMaps.setBlock w b (.map (mE ek ev' (setM a v l) 0).toArray (setM a v l).length)) := by
  have h2 := at_idxM (k := a) (v := v0) l
  have h3 := mE_at (ek := ek) (ev' := ev') h2
  have hlt := (List.getElem?_eq_some_iff.1 h2).1
  have hf : (mE ek ev' (setM a v0 l) 0).findIdx? (fun e => (e.born : Int) == ((idxM a l : Nat) : Int)) = some (idxM a l) := by
    have := findIdx_mE (ek := ek) (ev' := ev') (setM a v0 l) 0 (idxM a l) hlt
    simpa using this
  have e1 : setM a v l = (setM a v0 l).set (idxM a l) (a, v) := by rw [← setM_setM (k := a) (v := v0) (v' := v) (l := l)]; exact setM_some (setM_nodup hn) h2
  have e2 : (setM a v l).length = (setM a v0 l).length := by rw [e1, List.length_set]
  have e3 := mE_set (ek := ek) (ev := ev') (setM a v0 l) 0 (idxM a l) a v0 v h2
  rw [Nat.zero_add] at e3
  rw [e2]
  simp [Instr.entryStore, goInt, go_sem, MapKept.run_getObj_map hb, hf, MapKept.run_setObj_map _ hb, Result.andThen, modify_at h3, ChangeMaps.setBlock, e3, ← e1]
theorem JL_entryStore {x y z : Operand} {a : α} {v0 v : β} (i : Nat) (hn : (l.map (·.1)).Nodup)
    (hx : Ev fr x (.map (some b))) (hy : Ev fr y (goInt (idxM a l))) (hv : Ev fr z (ev' v)) (hσ : Nth σ i (mapR b (mE ek ev' (setM a v0 l) 0) (setM a v0 l).length))
    (k : JL P ops Q w0 (updL σ i (mapR b (mE ek ev' (setM a v l) 0) (setM a v l).length)) φ rest fr) :
    JL P ops Q w0 σ φ (⟨none, .entryStore t x y z, ty, pos, aft, none⟩ :: rest) fr :=
  fun w s => wpList_run0 rfl rfl (w' := _) (by simp only [execOp, hx.eq, hy.eq, hv.eq, Sem.run_bind, run_entryStore (s.own _ hσ.mem) hn, Result.andThen_ok, Sem.run_pure]) (k _ (s.setMap _ _ hσ))
end

end Go.Fw

/- Iterators over maps that read as lists of keys with values: the steps, and what has come. -/
namespace Go.Fw
open Go Go.RowKit
section
variable {F : Fence} {n : Nat} {P : Program} (w : World) {ops : Array Oper} {rest : List Oper} {o : Oper} {a : Act} {Q : Exit → Act → World → Prop}
theorem wpListIn_range_raw (hg : o.guard = none) (m : Operand) (t : TypeId) (hop : o.op = Op.range t m) (k e : TypeId) (ht : P.underlying t = some (.map k e)) (b : Nat) (es : Array MapEntry) (c : Nat)
    (hm : a.eval m = .map (some b)) (hb : w.heap[b]? = some (.map es c))
    (hK : wpListIn F n P ops Q rest (a.put o.dst (.pointer (some ⟨w.heap.size, 0, none⟩))) (w.alloc (.mapIter (some b) c #[] c))) : wpListIn F n P ops Q (o :: rest) a w := by
  refine wpListIn_plain hg fun K' hK' => ?_
  unfold Oper.wpIn
  refine ⟨by simp [Oper.about, hop], ?_⟩
  rw [Oper.semAt_plain F _ _ (by rw [hop]; intro c hc'; cases hc')]
  simp [execOp, hop, hm, run_range_map w t k e b es c ht hb, Result.andThen]
  exact hK' _ _ hK
theorem wpListIn_next_raw (hg : o.guard = none) (it : Operand) (hop : o.op = Op.next it false) (b r since c0 : Nat) (seen : Array Nat) (es : Array MapEntry) (c : Nat)
    (hit : a.eval it = .pointer (some ⟨r, 0, none⟩)) (hr : w.heap[r]? = some (.mapIter (some b) since seen c0)) (hb : w.heap[b]? = some (.map es c)) (hold : ∀ x ∈ es.toList, x.born < since) (hsc : since ≤ c0) (hnd : (es.toList.map (·.born)).Nodup)
    (hDone : (leftOf es seen).size = 0 → wpListIn F n P ops Q rest (a.put o.dst (.tuple #[.bool false])) w)
    (hMore : ∀ (e : MapEntry) (w' : World), e ∈ (leftOf es seen).toList → w.grownBy w' (some r) → w'.heap.size = w.heap.size → w'.heap[r]? = some (.mapIter (some b) since (seen.push e.born) c) → w'.heap[b]? = some (.map es c) →
      (Instr.entry (.pointer (some ⟨r, 0, none⟩))).run P w' = .ok (.tuple #[e.key, e.val]) w' → wpListIn F n P ops Q rest (a.put o.dst (.tuple #[.bool true, e.key, e.val])) w') :
    wpListIn F n P ops Q (o :: rest) a w := by
  refine wpListIn_plain hg fun K' hK' => ?_
  unfold Oper.wpIn
  refine ⟨by simp [Oper.about, hop], ?_⟩
  rw [Oper.semAt_plain F _ _ (by rw [hop]; intro c hc'; cases hc')]
  rcases run_next_at (P := P) w o.type r b since c0 seen es c hr hb hold hsc with ⟨h0, hrun⟩ | ⟨e, he, w1, hw1, hrun⟩
  · simp [execOp, hop, hit, hrun, Result.andThen]
    exact hK' _ _ (hDone h0)
  · simp [execOp, hop, hit, hrun, Result.andThen]
    have hh : w1.heap = w.heap ∧ w1.os = w.os ∧ w1.tape = w.tape ∧ w1.output = w.output := by rcases hw1 with rfl | rfl <;> exact ⟨rfl, rfl, rfl, rfl⟩
    have hr1 : w1.heap[r]? = some (.mapIter (some b) since seen c0) := by rw [hh.1]; exact hr
    have hne : r ≠ b := fun e => by subst e; rw [hr] at hb; cases hb
    have h1 := mapR_set (o' := .mapIter (some b) since (seen.push e.born) c) hr1
    have h2 : (ChangeMaps.setBlock w1 r (.mapIter (some b) since (seen.push e.born) c)).heap[b]? = some (.map es c) := (setBlock_other hne).trans (by rw [hh.1]; exact hb)
    refine hK' _ _ (hMore e _ he ⟨hh.2.1, hh.2.2.1, hh.2.2.2, by simp [ChangeMaps.setBlock, hh.1], fun k _ hk => (setBlock_other (fun e => hk (by rw [e]))).trans (by rw [hh.1])⟩ (by simp [ChangeMaps.setBlock, hh.1]) h1 h2 (run_entry_at _ r b since seen es c e h1 h2 (mem_left he).1 hnd))
end
section
variable {α β : Type} {ek : α → Value} {ev' : β → Value}
theorem mE_born : ∀ (l : List (α × β)) (n : Nat), (mE ek ev' l n).map (·.born) = List.range' n l.length
  | [], _ => rfl
  | p :: l, n => by rw [mE, List.map_cons, mE_born l, List.length_cons, List.range'_succ]
theorem mE_nodup (l : List (α × β)) : ((mE ek ev' l 0).toArray.toList.map (·.born)).Nodup := by
  show ((mE ek ev' l 0).map (·.born)).Nodup
  rw [mE_born]; exact List.nodup_range'
theorem mE_old (l : List (α × β)) : ∀ x ∈ (mE ek ev' l 0).toArray.toList, x.born < l.length := fun x hx => by
  obtain ⟨j, p, hj, rfl⟩ := mE_mem (show x ∈ mE ek ev' l 0 from hx)
  have := (List.getElem?_eq_some_iff.1 hj).1
  simpa using this
end
end Go.Fw
