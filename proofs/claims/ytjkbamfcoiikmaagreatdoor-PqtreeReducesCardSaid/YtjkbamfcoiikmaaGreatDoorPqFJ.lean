/- Chapter 28: what reducing keeps: the form of nodes, the leaves; trees that grow out of rows. -/
import Derived.Test.YtjkbamfcoiikmaaGreatDoorPqAE
namespace Go.Fw.Pq
open Go
variable {S : Nat → Bool}
theorem grp_Ok {l : List PT} (h : ∀ k ∈ l, Ok k) : ∀ k ∈ grp l, Ok k := by
  match l, h with
  | [], _ => intro k hk; cases hk
  | [t], h => exact h
  | t :: u :: l, h =>
    intro k hk
    obtain rfl := List.mem_singleton.1 hk
    exact .nd _ _ (by simp) (by intro e; cases e) h
theorem lne_Ok {l : List PT} (h : ∀ k ∈ l, Ok k) : ∀ k ∈ lne l, Ok k := by
  unfold lne
  split
  · exact grp_Ok h
  · intro k hk
    obtain rfl := List.mem_singleton.1 hk
    exact .nd _ _ (by omega) (fun _ => by omega) h
theorem headD_Ok {l : List PT} (h : ∀ k ∈ l, Ok k) : Ok (l.headD default) := by
  match l, h with
  | [], _ => exact .leaf 0
  | k :: l, h => exact h k List.mem_cons_self
theorem by_Ok {s : Nat} {l : List PT} (h : ∀ k ∈ l, Ok k) : ∀ k ∈ by_ S s l, Ok k := fun k hk => h k (by_mem.1 hk).1
theorem app_Ok {a b : List PT} (ha : ∀ k ∈ a, Ok k) (hb : ∀ k ∈ b, Ok k) : ∀ k ∈ a ++ b, Ok k := fun k hk => (List.mem_append.1 hk).elim (ha k) (hb k)
theorem rev_Ok {a : List PT} (ha : ∀ k ∈ a, Ok k) : ∀ k ∈ a.reverse, Ok k := fun k hk => ha k (List.mem_reverse.1 hk)
theorem linQ_Ok {ks : List PT} (ih : ∀ k ∈ ks, ∀ ts, lin S k = some ts → ∀ x ∈ ts, Ok x) : ∀ {last : Nat} {ts : List PT}, linQ S last ks = some ts → ∀ x ∈ ts, Ok x := by
  induction ks with
  | nil => intro last ts e; rw [linQ] at e; cases e; intro x hx; cases hx
  | cons k ks ihk =>
    intro last ts e
    rw [linQ] at e
    split at e
    · cases e
    · cases e1 : lin S k with
      | none => rw [e1] at e; cases e
      | some l =>
        rw [e1] at e
        obtain ⟨us, e2, rfl⟩ := Option.map_eq_some_iff.1 e
        exact app_Ok (ih k List.mem_cons_self l e1) (ihk (fun x hx => ih x (List.mem_cons_of_mem _ hx)) e2)
theorem lin_Ok {t : PT} (h : Ok t) : ∀ {ts : List PT}, lin S t = some ts → ∀ x ∈ ts, Ok x := by
  induction t using PT.ind with
  | h1 n => intro ts e; rw [lin] at e; cases e; intro x hx; rw [List.mem_singleton.1 hx]; exact .leaf n
  | h2 q ks ih =>
    have hk := h.kids
    intro ts e
    by_cases hp : st S (.nd q ks) = 1
    · cases q with
      | true =>
        rw [lin_Q hp] at e
        split at e
        · exact linQ_Ok (fun k hk' ts => ih k (List.mem_reverse.1 hk') (hk k (List.mem_reverse.1 hk'))) e
        · exact linQ_Ok (fun k hk' ts => ih k hk' (hk k hk')) e
      | false =>
        rw [lin_P hp] at e
        match hM : by_ S 1 ks, e with
        | [], e => cases e; exact app_Ok (grp_Ok (by_Ok hk)) (grp_Ok (by_Ok hk))
        | [m], e =>
          obtain ⟨us, e1, rfl⟩ := Option.map_eq_some_iff.1 e
          have hm : m ∈ ks := (by_mem.1 (show m ∈ by_ S 1 ks from by rw [hM]; exact List.mem_cons_self)).1
          exact app_Ok (app_Ok (grp_Ok (by_Ok hk)) (ih m hm (hk m hm) e1)) (grp_Ok (by_Ok hk))
        | _ :: _ :: _, e => cases e
    · rw [lin_one hp] at e
      cases e
      intro x hx; rw [List.mem_singleton.1 hx]; exact h
theorem wthL_Ok {f l : Nat} {ks : List PT} (h : ∀ k ∈ ks, Ok k) : ∀ {i : Nat} {ts : List PT}, wthL S f l i ks = some ts → ∀ x ∈ ts, Ok x := by
  induction ks with
  | nil => intro i ts e; rw [wthL] at e; cases e; intro x hx; cases hx
  | cons k ks ihk =>
    intro i ts e
    rw [wthL] at e
    split at e
    · cases e
    · split at e
      · cases e
      · rename_i m hm
        obtain ⟨us, e2, rfl⟩ := Option.map_eq_some_iff.1 e
        have hmo : ∀ x ∈ m, Ok x := by
          split at hm
          · exact lin_Ok (h k List.mem_cons_self) hm
          · cases hm; intro x hx; rw [List.mem_singleton.1 hx]; exact h k List.mem_cons_self
        refine app_Ok ?_ (ihk (fun x hx => h x (List.mem_cons_of_mem _ hx)) e2)
        split
        · exact rev_Ok hmo
        · exact hmo
theorem tog_Ok {ks : List PT} (h : ∀ k ∈ ks, Ok k) {t : PT} (e : tog S ks = some t) : Ok t := by
  rw [tog_togL] at e
  obtain ⟨ts, e1, rfl⟩ := Option.map_eq_some_iff.1 e
  refine headD_Ok (grp_Ok (app_Ok (by_Ok h) (lne_Ok ?_)))
  have h1 : ∀ k ∈ by_ S 1 ks, Ok k := by_Ok h
  unfold togL at e1
  match hM : by_ S 1 ks, e1, h1 with
  | [], e1, _ => cases e1; exact grp_Ok (by_Ok h)
  | [a], e1, h1 =>
    obtain ⟨us, e2, rfl⟩ := Option.map_eq_some_iff.1 e1
    exact app_Ok (lin_Ok (h1 a List.mem_cons_self) e2) (grp_Ok (by_Ok h))
  | [a, b], e1, h1 =>
    cases ea : lin S a with
    | none => simp only [ea] at e1; cases e1
    | some us =>
      cases eb : lin S b with
      | none => simp only [ea, eb] at e1; cases e1
      | some vs =>
        simp only [ea, eb] at e1
        cases e1
        exact app_Ok (app_Ok (lin_Ok (h1 a (by simp)) ea) (grp_Ok (by_Ok h))) (rev_Ok (lin_Ok (h1 b (by simp)) eb))
  | _ :: _ :: _ :: _, e1, _ => cases e1
theorem red_Ok {t : PT} (h : Ok t) : ∀ {t' : PT}, red S t = some t' → Ok t' := by
  induction t using PT.ind with
  | h1 n => intro t' e; rw [red] at e; cases e; exact .leaf n
  | h2 q ks ih =>
    have hk := h.kids
    intro t' e
    rw [red_nd] at e
    split at e
    · cases e; exact h
    · split at e
      · obtain ⟨k', e1, rfl⟩ := Option.map_eq_some_iff.1 e
        rw [List.getD_eq_getElem?_getD, List.getElem?_map] at e1
        cases e2 : ks[lastI S ks]? with
        | none => rw [e2] at e1; cases e1
        | some k =>
          rw [e2] at e1
          have hm := List.mem_of_getElem? e2
          have ok' := ih k hm (hk k hm) e1
          refine .nd _ _ (by rw [List.length_set]; exact h.two) (fun e => by subst e; rw [List.length_set]; exact h.three) fun x hx => ?_
          rcases List.mem_or_eq_of_mem_set hx with hx | rfl
          · exact hk x hx
          · exact ok'
      · split at e
        · unfold wth at e
          obtain ⟨ts, e1, rfl⟩ := Option.map_eq_some_iff.1 e
          exact headD_Ok (lne_Ok (wthL_Ok hk e1))
        · exact tog_Ok hk e
theorem red_lvs {t t' : PT} (h : Ok t) (h0 : st S t ≠ 0) (e : red S t = some t') : (lvs t').Perm (lvs t) :=
  Fr_perm ((red_ok h h0 (lvs t')).2 ⟨t', e, Fr_lvs t'⟩).1
/-! ## Trees out of rows -/
/-- The tree of all orders. -/
def newT (n : Nat) : PT := (grp ((List.range n).map .leaf)).headD default
theorem newT_Ok (n : Nat) : Ok (newT n) := headD_Ok (grp_Ok (by intro k hk; obtain ⟨i, _, rfl⟩ := List.mem_map.1 hk; exact .leaf i))
theorem lvs_leaves (l : List Nat) : (l.map PT.leaf).flatMap lvs = l := by
  induction l with
  | nil => rfl
  | cons a l ih => rw [List.map_cons, List.flatMap_cons, ih]; rfl
theorem lvs_grp (l : List PT) : (grp l).flatMap lvs = l.flatMap lvs := by
  match l with
  | [] => rfl
  | [t] => rfl
  | t :: u :: l => rw [grp, List.flatMap_singleton, lvs_nd]
theorem newT_lvs {n : Nat} (hn : 0 < n) : lvs (newT n) = List.range n := by
  have h1 : ((List.range n).map PT.leaf) ≠ [] := by
    intro e; have := congrArg List.length e; simp at this; omega
  have := lvs_grp ((List.range n).map .leaf)
  rw [grp_one h1, lvs_leaves, List.flatMap_singleton] at this
  exact this
theorem FrL_leaves (l a : List Nat) : FrL (l.map PT.leaf) a ↔ a = l := by
  induction l generalizing a with
  | nil => exact Iff.rfl
  | cons n l ih =>
    rw [List.map_cons, FrL_cons]
    constructor
    · rintro ⟨x, y, rfl, hx, hy⟩
      obtain rfl : x = [n] := hx
      rw [(ih y).1 hy]; rfl
    · rintro rfl
      exact ⟨[n], l, rfl, rfl, (ih l).2 rfl⟩
theorem newT_Fr {n : Nat} (hn : 0 < n) (l : List Nat) : Fr (newT n) l ↔ l.Perm (List.range n) := by
  have h1 : ((List.range n).map PT.leaf) ≠ [] := by
    intro e; have := congrArg List.length e; simp at this; omega
  rw [← FrL_one, newT, ← grp_one h1, FrL_grp]
  constructor
  · rintro ⟨l', p, h⟩
    obtain ⟨m, pm, rfl⟩ := perm_of_map PT.leaf p
    rw [(FrL_leaves m l).1 h]; exact pm
  · intro h
    exact ⟨l.map .leaf, h.map _, (FrL_leaves l l).2 rfl⟩
/-- The row of a list of columns. -/
def rowS (r : List Nat) (n : Nat) : Bool := r.contains n
/-- A tree after a row: unchanged where the row has no column, or there is no order. -/
def redR (r : List Nat) (t : PT) : Option PT := if r = [] then some t else red (rowS r) t
/-- A tree of n columns. -/
structure Tn (n : Nat) (t : PT) : Prop where
  ok : Ok t
  lvs : (lvs t).Perm (List.range n)
theorem newT_Tn {n : Nat} (hn : 0 < n) : Tn n (newT n) := ⟨newT_Ok n, by rw [newT_lvs hn]⟩
theorem Tn.st_ne {n : Nat} {t : PT} (h : Tn n t) {r : List Nat} (hr : ∀ c ∈ r, c < n) (h0 : r ≠ []) : st (rowS r) t ≠ 0 := by
  rw [Ne, st_zero h.ok]
  intro hx
  match r, h0 with
  | c :: r, _ =>
    have hc : c ∈ Pq.lvs t := h.lvs.mem_iff.2 (List.mem_range.2 (hr c List.mem_cons_self))
    have := hx c hc
    simp [rowS] at this
theorem Tn.red {n : Nat} {t t' : PT} (h : Tn n t) {r : List Nat} (hr : ∀ c ∈ r, c < n) (e : redR r t = some t') : Tn n t' := by
  unfold redR at e
  split at e
  · cases e; exact h
  · rename_i h0
    exact ⟨red_Ok h.ok e, (red_lvs h.ok (h.st_ne hr h0) e).trans h.lvs⟩
/-- The row stands together in the order. -/
def Con (r l : List Nat) : Prop := Cn (rowS r) l
theorem Con_nil (l : List Nat) : Con [] l := (show non (rowS []) l from fun x _ => by simp [rowS]).cn
theorem redR_ok {n : Nat} {t : PT} (h : Tn n t) {r : List Nat} (hr : ∀ c ∈ r, c < n) (l : List Nat) : (Fr t l ∧ Con r l) ↔ ∃ t', redR r t = some t' ∧ Fr t' l := by
  unfold redR
  split
  · rename_i h0
    subst h0
    exact ⟨fun h => ⟨t, rfl, h.1⟩, fun ⟨t', e, h⟩ => by cases e; exact ⟨h, Con_nil l⟩⟩
  · rename_i h0
    exact red_ok h.ok (h.st_ne hr h0) l
end Go.Fw.Pq

/- Chapter 28: how many orders a tree has. -/
namespace Go.Fw.Pq
open Go
section
variable {α β : Type}
def ins (x : α) : List α → List (List α)
  | [] => [[x]]
  | y :: l => (x :: y :: l) :: (ins x l).map (y :: ·)
def perms : List α → List (List α)
  | [] => [[]]
  | x :: l => (perms l).flatMap (ins x)
def fct : Nat → Nat
  | 0 => 1
  | n + 1 => (n + 1) * fct n
theorem ins_length (x : α) : ∀ l : List α, (ins x l).length = l.length + 1
  | [] => rfl
  | y :: l => by rw [ins, List.length_cons, List.length_map, ins_length x l, List.length_cons]
theorem mem_ins {x : α} {m : List α} : ∀ {l : List α}, m ∈ ins x l ↔ ∃ a b, l = a ++ b ∧ m = a ++ x :: b
  | [] => by
    rw [ins, List.mem_singleton]
    constructor
    · rintro rfl; exact ⟨[], [], rfl, rfl⟩
    · rintro ⟨a, b, e, rfl⟩
      obtain ⟨rfl, rfl⟩ := List.append_eq_nil_iff.1 e.symm
      rfl
  | y :: l => by
    rw [ins, List.mem_cons, List.mem_map]
    constructor
    · rintro (rfl | ⟨m', h, rfl⟩)
      · exact ⟨[], y :: l, rfl, rfl⟩
      · obtain ⟨a, b, rfl, rfl⟩ := mem_ins.1 h
        exact ⟨y :: a, b, rfl, rfl⟩
    · rintro ⟨a, b, e, rfl⟩
      match a, e with
      | [], e => left; rw [List.nil_append] at e; rw [← e]; rfl
      | z :: a, e =>
        obtain ⟨e1, e2⟩ := List.cons.inj e
        subst e1
        exact .inr ⟨a ++ x :: b, mem_ins.2 ⟨a, b, e2, rfl⟩, rfl⟩
theorem mem_perms {m : List α} : ∀ {l : List α}, m ∈ perms l ↔ m.Perm l
  | [] => by
    rw [perms, List.mem_singleton]
    exact ⟨fun h => by rw [h], fun h => List.perm_nil.1 h⟩
  | x :: l => by
    rw [perms, List.mem_flatMap]
    constructor
    · rintro ⟨n, hn, hm⟩
      obtain ⟨a, b, rfl, rfl⟩ := mem_ins.1 hm
      exact List.perm_middle.trans ((mem_perms.1 hn).cons x)
    · intro h
      obtain ⟨a, b, rfl⟩ := List.append_of_mem (h.mem_iff.2 List.mem_cons_self)
      exact ⟨a ++ b, mem_perms.2 (List.perm_middle.symm.trans h).cons_inv, mem_ins.2 ⟨a, b, rfl, rfl⟩⟩
theorem flatMap_len {f : α → List β} {c : Nat} : ∀ {l : List α}, (∀ x ∈ l, (f x).length = c) → (l.flatMap f).length = l.length * c
  | [], _ => by simp
  | x :: l, h => by
    rw [List.flatMap_cons, List.length_append, h x List.mem_cons_self, flatMap_len fun y hy => h y (List.mem_cons_of_mem _ hy), List.length_cons, Nat.add_mul]; omega
theorem perms_length : ∀ l : List α, (perms l).length = fct l.length
  | [] => rfl
  | x :: l => by
    rw [perms, flatMap_len (c := l.length + 1) (fun m hm => by rw [ins_length, (mem_perms.1 hm).length_eq]), perms_length l, List.length_cons, fct, Nat.mul_comm]
theorem ins_nodup {x : α} : ∀ {l : List α}, x ∉ l → (ins x l).Nodup
  | [], _ => by simp [ins]
  | y :: l, h => by
    rw [ins, List.nodup_cons]
    constructor
    · intro hm
      obtain ⟨m, _, e⟩ := List.mem_map.1 hm
      exact h (by rw [(List.cons.inj e).1]; exact List.mem_cons_self)
    · have := ins_nodup (x := x) (l := l) fun hm => h (List.mem_cons_of_mem _ hm)
      unfold List.Nodup at this ⊢
      rw [List.pairwise_map]
      exact this.imp fun hne e => hne (List.cons.inj e).2
theorem split_inj {x : α} : ∀ {a b a' b' : List α}, x ∉ a → x ∉ b → x ∉ a' → x ∉ b' → a ++ x :: b = a' ++ x :: b' → a = a' ∧ b = b'
  | [], b, [], b', _, _, _, _, e => ⟨rfl, (List.cons.inj e).2⟩
  | [], b, y :: a', b', _, _, h, _, e => absurd (by rw [(List.cons.inj e).1]; exact List.mem_cons_self) h
  | y :: a, b, [], b', h, _, _, _, e => absurd (by rw [← (List.cons.inj e).1]; exact List.mem_cons_self) h
  | y :: a, b, z :: a', b', h1, h2, h3, h4, e => by
    obtain ⟨e1, e2⟩ := List.cons.inj e
    obtain ⟨r1, r2⟩ := split_inj (fun h => h1 (List.mem_cons_of_mem _ h)) h2 (fun h => h3 (List.mem_cons_of_mem _ h)) h4 e2
    exact ⟨by rw [e1, r1], r2⟩
theorem perms_nodup : ∀ {l : List α}, l.Nodup → (perms l).Nodup
  | [], _ => by simp [perms]
  | x :: l, h => by
    obtain ⟨hx, hl⟩ := List.nodup_cons.1 h
    rw [perms]
    unfold List.Nodup
    rw [List.pairwise_flatMap]
    refine ⟨fun m hm => ins_nodup fun h' => hx ((mem_perms.1 hm).mem_iff.1 h'), ?_⟩
    refine List.Pairwise.imp_of_mem ?_ (perms_nodup hl)
    intro m m' hm hm' hne y hy z hz e
    subst e
    obtain ⟨a, b, rfl, e1⟩ := mem_ins.1 hy
    obtain ⟨a', b', rfl, e2⟩ := mem_ins.1 hz
    have n1 : x ∉ a ++ b := fun h' => hx ((mem_perms.1 hm).mem_iff.1 h')
    have n2 : x ∉ a' ++ b' := fun h' => hx ((mem_perms.1 hm').mem_iff.1 h')
    rw [List.mem_append, not_or] at n1 n2
    obtain ⟨rfl, rfl⟩ := split_inj n1.1 n1.2 n2.1 n2.2 (e1.symm.trans e2)
    exact hne rfl
theorem ins_map (f : α → β) (x : α) : ∀ l : List α, ins (f x) (l.map f) = (ins x l).map (List.map f)
  | [] => rfl
  | y :: l => by
    rw [List.map_cons, ins, ins_map f x l, ins, List.map_cons, List.map_map, List.map_map]
    rfl
theorem perms_map (f : α → β) : ∀ l : List α, perms (l.map f) = (perms l).map (List.map f)
  | [] => rfl
  | x :: l => by
    rw [List.map_cons, perms, perms_map f l, perms, List.flatMap_map, List.map_flatMap]
    congr 1
    funext m
    exact ins_map f x m
end
def prod : List (List (List Nat)) → List (List Nat)
  | [] => [[]]
  | X :: Xs => X.flatMap fun a => (prod Xs).map (a ++ ·)
mutual
def ords : PT → List (List Nat)
  | .leaf n => [[n]]
  | .nd true ks => prod (ordsL ks) ++ prod (ordsL ks).reverse
  | .nd false ks => (perms (ordsL ks)).flatMap prod
def ordsL : List PT → List (List (List Nat))
  | [] => []
  | k :: ks => ords k :: ordsL ks
end
theorem ordsL_map : ∀ ks, ordsL ks = ks.map ords
  | [] => rfl
  | k :: ks => by rw [ordsL, ordsL_map ks]; rfl
theorem ords_Q (ks : List PT) : ords (.nd true ks) = prod (ks.map ords) ++ prod (ks.reverse.map ords) := by rw [ords, ordsL_map, List.map_reverse]
theorem ords_P (ks : List PT) : ords (.nd false ks) = (perms ks).flatMap fun ks' => prod (ks'.map ords) := by
  rw [ords, ordsL_map, perms_map, List.flatMap_map]
mutual
/-- The number of orders. -/
def cntT : PT → Nat
  | .leaf _ => 1
  | .nd q ks => (if q then 2 else fct ks.length) * cntL ks
def cntL : List PT → Nat
  | [] => 1
  | k :: ks => cntT k * cntL ks
end
theorem prod_length : ∀ ks : List PT, (∀ k ∈ ks, (ords k).length = cntT k) → (prod (ks.map ords)).length = cntL ks
  | [], _ => rfl
  | k :: ks, h => by
    rw [List.map_cons, prod, flatMap_len (c := cntL ks) (fun a _ => by rw [List.length_map]; exact prod_length ks fun x hx => h x (List.mem_cons_of_mem _ hx)), h k List.mem_cons_self, cntL]
theorem cntL_perm {ks ks' : List PT} (h : ks.Perm ks') : cntL ks = cntL ks' := by
  induction h with
  | nil => rfl
  | cons x _ ih => rw [cntL, cntL, ih]
  | swap x y l => rw [cntL, cntL, cntL, cntL, Nat.mul_left_comm]
  | trans _ _ ih1 ih2 => rw [ih1, ih2]
theorem ords_length (t : PT) : (ords t).length = cntT t := by
  induction t using PT.ind with
  | h1 n => rfl
  | h2 q ks ih =>
    cases q with
    | true =>
      rw [ords_Q, List.length_append, prod_length ks ih, prod_length _ (fun k hk => ih k (List.mem_reverse.1 hk)), cntL_perm (List.reverse_perm ks), cntT, if_pos rfl]; omega
    | false =>
      rw [ords_P, flatMap_len (c := cntL ks) (fun m hm => by
        have hp := mem_perms.1 hm
        rw [prod_length m (fun k hk => ih k (hp.mem_iff.1 hk)), cntL_perm hp]), perms_length, cntT, if_neg (by simp)]
theorem mem_prod : ∀ {ks : List PT}, (∀ k ∈ ks, ∀ l, l ∈ ords k ↔ Fr k l) → ∀ l, l ∈ prod (ks.map ords) ↔ FrL ks l
  | [], _, l => by rw [List.map_nil, prod, List.mem_singleton, FrL_nil]
  | k :: ks, h, l => by
    rw [List.map_cons, prod, List.mem_flatMap, FrL_cons]
    constructor
    · rintro ⟨a, ha, hl⟩
      obtain ⟨b, hb, rfl⟩ := List.mem_map.1 hl
      exact ⟨a, b, rfl, (h k List.mem_cons_self a).1 ha, (mem_prod (fun x hx => h x (List.mem_cons_of_mem _ hx)) b).1 hb⟩
    · rintro ⟨a, b, rfl, ha, hb⟩
      exact ⟨a, (h k List.mem_cons_self a).2 ha, List.mem_map.2 ⟨b, (mem_prod (fun x hx => h x (List.mem_cons_of_mem _ hx)) b).2 hb, rfl⟩⟩
theorem mem_ords (t : PT) : ∀ l, l ∈ ords t ↔ Fr t l := by
  induction t using PT.ind with
  | h1 n => intro l; rw [ords, List.mem_singleton, Fr_leaf]
  | h2 q ks ih =>
    intro l
    cases q with
    | true => rw [ords_Q, List.mem_append, mem_prod ih, mem_prod (fun k hk => ih k (List.mem_reverse.1 hk)), Fr_Q]
    | false =>
      rw [ords_P, List.mem_flatMap, Fr_P]
      constructor
      · rintro ⟨m, hm, hl⟩
        have hp := mem_perms.1 hm
        exact ⟨m, hp, (mem_prod (fun k hk => ih k (hp.mem_iff.1 hk)) l).1 hl⟩
      · rintro ⟨m, hp, hl⟩
        exact ⟨m, mem_perms.2 hp, (mem_prod (fun k hk => ih k (hp.mem_iff.1 hk)) l).2 hl⟩
/-! ## No order comes twice -/
/-- Kids that share no leaf. -/
def Apart (K : List PT) : Prop := ∀ k ∈ K, ∀ k' ∈ K, ∀ x, x ∈ lvs k → x ∈ lvs k' → k = k'
theorem apart_of : ∀ {ks : List PT}, (ks.flatMap lvs).Nodup → Apart ks
  | [], _ => fun _ h => by cases h
  | k :: ks, h => by
    rw [List.flatMap_cons, List.nodup_append] at h
    obtain ⟨_, h2, h3⟩ := h
    have ih := apart_of h2
    intro a ha b hb x hx hy
    rcases List.mem_cons.1 ha with ea | ha' <;> rcases List.mem_cons.1 hb with eb | hb'
    · rw [ea, eb]
    · exact absurd rfl (h3 x (by rw [← ea]; exact hx) x (List.mem_flatMap.2 ⟨b, hb', hy⟩))
    · exact absurd rfl (h3 x (by rw [← eb]; exact hy) x (List.mem_flatMap.2 ⟨a, ha', hx⟩))
    · exact ih a ha' b hb' x hx hy
theorem kids_nodup : ∀ {ks : List PT}, (∀ k ∈ ks, Ok k) → (ks.flatMap lvs).Nodup → ks.Nodup
  | [], _, _ => .nil
  | k :: ks, ok, h => by
    rw [List.flatMap_cons, List.nodup_append] at h
    obtain ⟨_, h2, h3⟩ := h
    refine List.nodup_cons.2 ⟨fun hm => ?_, kids_nodup (fun x hx => ok x (List.mem_cons_of_mem _ hx)) h2⟩
    have hne := (ok k List.mem_cons_self).lvs_ne
    match hl : lvs k, hne with
    | x :: l, _ => exact h3 x (by rw [hl]; exact List.mem_cons_self) x (List.mem_flatMap.2 ⟨k, hm, by rw [hl]; exact List.mem_cons_self⟩) rfl
theorem kid_nodup {ks : List PT} (h : (ks.flatMap lvs).Nodup) : ∀ k ∈ ks, (lvs k).Nodup := by
  intro k hk
  obtain ⟨A, B, rfl⟩ := List.append_of_mem hk
  rw [List.flatMap_append, List.flatMap_cons, List.nodup_append, List.nodup_append] at h
  exact h.2.1.1
theorem FrL_inj {K : List PT} (ap : Apart K) (ok : ∀ k ∈ K, Ok k) : ∀ {ks ks' : List PT} {l : List Nat}, (∀ k ∈ ks, k ∈ K) → (∀ k ∈ ks', k ∈ K) → FrL ks l → FrL ks' l → ks = ks'
  | [], [], _, _, _, _, _ => rfl
  | [], k :: ks', l, _, h2, hl, hl' => by
    obtain rfl : l = [] := hl
    obtain ⟨a, b, e, ha, _⟩ := hl'
    exact absurd (List.append_eq_nil_iff.1 e.symm).1 (Fr_ne (ok k (h2 k List.mem_cons_self)) ha)
  | k :: ks, [], l, h1, _, hl, hl' => by
    obtain rfl : l = [] := hl'
    obtain ⟨a, b, e, ha, _⟩ := hl
    exact absurd (List.append_eq_nil_iff.1 e.symm).1 (Fr_ne (ok k (h1 k List.mem_cons_self)) ha)
  | k :: ks, k' :: ks', l, h1, h2, hl, hl' => by
    obtain ⟨a, b, rfl, ha, hb⟩ := hl
    obtain ⟨a', b', e, ha', hb'⟩ := hl'
    have na := Fr_ne (ok k (h1 k List.mem_cons_self)) ha
    have na' := Fr_ne (ok k' (h2 k' List.mem_cons_self)) ha'
    have hk : k = k' := by
      match a, a', na, na', e with
      | x :: a, y :: a', _, _, e =>
        have e1 : x = y := (List.cons.inj e).1
        exact ap k (h1 k List.mem_cons_self) k' (h2 k' List.mem_cons_self) x ((Fr_perm ha).mem_iff.1 List.mem_cons_self) ((Fr_perm ha').mem_iff.1 (by rw [e1]; exact List.mem_cons_self))
    subst hk
    have hlen : a.length = a'.length := (Fr_perm ha).length_eq.trans (Fr_perm ha').length_eq.symm
    obtain ⟨rfl, rfl⟩ := List.append_inj e hlen
    rw [FrL_inj ap ok (fun x hx => h1 x (List.mem_cons_of_mem _ hx)) (fun x hx => h2 x (List.mem_cons_of_mem _ hx)) hb hb']
theorem prod_nodup : ∀ {ks : List PT}, (∀ k ∈ ks, (ords k).Nodup) → (prod (ks.map ords)).Nodup
  | [], _ => by simp [prod]
  | k :: ks, h => by
    rw [List.map_cons, prod]
    unfold List.Nodup
    rw [List.pairwise_flatMap]
    constructor
    · intro a _
      rw [List.pairwise_map]
      exact (prod_nodup fun x hx => h x (List.mem_cons_of_mem _ hx)).imp fun hne e => hne (List.append_cancel_left e)
    · refine List.Pairwise.imp_of_mem ?_ (h k List.mem_cons_self)
      intro a a' ha ha' hne x hx y hy e
      obtain ⟨b, _, rfl⟩ := List.mem_map.1 hx
      obtain ⟨b', _, rfl⟩ := List.mem_map.1 hy
      have l1 := (Fr_perm ((mem_ords k a).1 ha)).length_eq
      have l2 := (Fr_perm ((mem_ords k a').1 ha')).length_eq
      exact hne (List.append_inj e (l1.trans l2.symm)).1
theorem ords_nodup {t : PT} (h : Ok t) (hn : (lvs t).Nodup) : (ords t).Nodup := by
  induction t using PT.ind with
  | h1 n => simp [ords]
  | h2 q ks ih =>
    have hk := h.kids
    rw [lvs_nd] at hn
    have ih' : ∀ k ∈ ks, (ords k).Nodup := fun k hk' => ih k hk' (hk k hk') (kid_nodup hn k hk')
    have ap := apart_of hn
    have nd := kids_nodup hk hn
    cases q with
    | true =>
      rw [ords_Q, List.nodup_append]
      refine ⟨prod_nodup ih', prod_nodup fun k hk' => ih' k (List.mem_reverse.1 hk'), ?_⟩
      rintro a ha b hb rfl
      have h1 := (mem_prod (fun k _ => mem_ords k) a).1 ha
      have h2 := (mem_prod (fun k _ => mem_ords k) a).1 hb
      have e := FrL_inj ap hk (fun k hk' => hk') (fun k hk' => List.mem_reverse.1 hk') h1 h2
      have h3 := h.three
      match ks, e, nd, h3 with
      | x :: y :: r, e, nd, _ =>
        rcases List.eq_nil_or_concat (y :: r) with e0 | ⟨L, z, e0⟩
        · cases e0
        · rw [e0, List.concat_eq_append] at e nd
          rw [show (x :: (L ++ [z])).reverse = z :: (L.reverse ++ [x]) from by simp] at e
          have := (List.cons.inj e).1
          subst this
          simp at nd
    | false =>
      rw [ords_P]
      unfold List.Nodup
      rw [List.pairwise_flatMap]
      constructor
      · intro m hm
        exact prod_nodup fun k hk' => ih' k ((mem_perms.1 hm).mem_iff.1 hk')
      · refine List.Pairwise.imp_of_mem ?_ (perms_nodup nd)
        intro m m' hm hm' hne x hx y hy e
        subst e
        have h1 := (mem_prod (fun k _ => mem_ords k) x).1 hx
        have h2 := (mem_prod (fun k _ => mem_ords k) x).1 hy
        exact hne (FrL_inj ap hk (fun k hk' => (mem_perms.1 hm).mem_iff.1 hk') (fun k hk' => (mem_perms.1 hm').mem_iff.1 hk') h1 h2)
theorem sub_length {α : Type} : ∀ {l m : List α}, l.Nodup → (∀ x ∈ l, x ∈ m) → l.length ≤ m.length
  | [], _, _, _ => Nat.zero_le _
  | x :: l, m, h, hs => by
    obtain ⟨hx, hl⟩ := List.nodup_cons.1 h
    obtain ⟨a, b, rfl⟩ := List.append_of_mem (hs x List.mem_cons_self)
    have := sub_length (l := l) (m := a ++ b) hl fun y hy => by
      have := hs y (List.mem_cons_of_mem _ hy)
      simp only [List.mem_append, List.mem_cons] at this ⊢
      rcases this with h' | rfl | h'
      · exact .inl h'
      · exact absurd hy hx
      · exact .inr h'
    simp only [List.length_append, List.length_cons] at this ⊢
    omega
theorem cnt_le {t u : PT} (ht : Ok t) (nt : (lvs t).Nodup) (h : ∀ l, Fr t l → Fr u l) : cntT t ≤ cntT u := by
  rw [← ords_length t, ← ords_length u]
  exact sub_length (ords_nodup ht nt) fun l hl => (mem_ords u l).2 (h l ((mem_ords t l).1 hl))
end Go.Fw.Pq

/- Chapter 28: the first order of a tree is the least of its orders. -/
namespace Go.Fw.Pq
open Go
/-- One list stands before another. -/
def LL (l m : List Nat) : Prop := ∃ p x y s t, l = p ++ x :: s ∧ m = p ++ y :: t ∧ x < y
def LE (l m : List Nat) : Prop := l = m ∨ LL l m
theorem LL.cons_iff {a b : Nat} {l m : List Nat} : LL (a :: l) (b :: m) ↔ a < b ∨ (a = b ∧ LL l m) := by
  constructor
  · rintro ⟨p, x, y, s, t, e1, e2, h⟩
    match p, e1, e2 with
    | [], e1, e2 =>
      obtain ⟨rfl, rfl⟩ := List.cons.inj e1
      obtain ⟨rfl, rfl⟩ := List.cons.inj e2
      exact .inl h
    | z :: p, e1, e2 =>
      obtain ⟨rfl, rfl⟩ := List.cons.inj e1
      obtain ⟨rfl, rfl⟩ := List.cons.inj e2
      exact .inr ⟨rfl, p, x, y, s, t, rfl, rfl, h⟩
  · rintro (h | ⟨rfl, p, x, y, s, t, rfl, rfl, h⟩)
    · exact ⟨[], a, b, l, m, rfl, rfl, h⟩
    · exact ⟨a :: p, x, y, s, t, rfl, rfl, h⟩
theorem LL.nil_left {m : List Nat} : ¬ LL [] m := by rintro ⟨p, x, y, s, t, e, _⟩; cases p <;> cases e
theorem LL.nil_right {m : List Nat} : ¬ LL m [] := by rintro ⟨p, x, y, s, t, _, e, _⟩; cases p <;> cases e
theorem LL.asymm : ∀ {l m : List Nat}, LL l m → ¬ LL m l
  | [], _, h, _ => LL.nil_left h
  | _ :: _, [], h, _ => LL.nil_right h
  | a :: l, b :: m, h, h' => by
    rw [LL.cons_iff] at h h'
    rcases h with h | ⟨rfl, h⟩ <;> rcases h' with h' | ⟨e, h'⟩
    · omega
    · omega
    · omega
    · exact LL.asymm h h'
theorem LL.trans : ∀ {l m n : List Nat}, LL l m → LL m n → LL l n
  | [], _, _, h, _ => absurd h LL.nil_left
  | _ :: _, [], _, h, _ => absurd h LL.nil_right
  | _ :: _, _ :: _, [], _, h => absurd h LL.nil_right
  | a :: l, b :: m, c :: n, h, h' => by
    rw [LL.cons_iff] at h h' ⊢
    rcases h with h | ⟨rfl, h⟩ <;> rcases h' with h' | ⟨rfl, h'⟩
    · exact .inl (by omega)
    · exact .inl h
    · exact .inl h'
    · exact .inr ⟨rfl, LL.trans h h'⟩
theorem LE.trans {l m n : List Nat} (h : LE l m) (h' : LE m n) : LE l n := by
  rcases h with rfl | h
  · exact h'
  · rcases h' with rfl | h'
    · exact .inr h
    · exact .inr (h.trans h')
theorem LE.antisymm {l m : List Nat} (h : LE l m) (h' : LE m l) : l = m := by
  rcases h with h | h
  · exact h
  · rcases h' with h' | h'
    · exact h'.symm
    · exact absurd h' h.asymm
theorem LL.append_right {l m : List Nat} (h : LL l m) (a b : List Nat) : LL (l ++ a) (m ++ b) := by
  obtain ⟨p, x, y, s, t, rfl, rfl, h⟩ := h
  exact ⟨p, x, y, s ++ a, t ++ b, by simp, by simp, h⟩
theorem LL.append_left {l m : List Nat} (h : LL l m) (a : List Nat) : LL (a ++ l) (a ++ m) := by
  obtain ⟨p, x, y, s, t, rfl, rfl, h⟩ := h
  exact ⟨a ++ p, x, y, s, t, by simp, by simp, h⟩
theorem LE.app {l m a b : List Nat} (h : LE l m) (h' : LE a b) : LE (l ++ a) (m ++ b) := by
  rcases h with rfl | h
  · rcases h' with rfl | h'
    · exact .inl rfl
    · exact .inr (h'.append_left l)
  · exact .inr (h.append_right a b)
theorem LE.head {l m : List Nat} (h : LE l m) (hm : m ≠ []) : l.headD 0 ≤ m.headD 0 := by
  rcases h with rfl | ⟨p, x, y, s, t, rfl, rfl, h⟩
  · exact Nat.le_refl _
  · match p with
    | [] => exact Nat.le_of_lt h
    | z :: p => exact Nat.le_refl _
theorem LL_head {l m : List Nat} (hl : l ≠ []) (hm : m ≠ []) (h : l.headD 0 < m.headD 0) : LL l m := by
  match l, m, hl, hm, h with
  | a :: l, b :: m, _, _, h => exact LL.cons_iff.2 (.inl h)
mutual
/-- The first order. -/
def fstT : PT → List Nat
  | .leaf n => [n]
  | .nd q ks =>
    (if q then (if ((fstL ks).getLastD []).headD 0 < ((fstL ks).headD []).headD 0 then (fstL ks).reverse else fstL ks)
      else (fstL ks).mergeSort fun a b => decide (a.headD 0 ≤ b.headD 0)).flatten
def fstL : List PT → List (List Nat)
  | [] => []
  | k :: ks => fstT k :: fstL ks
end
theorem fstL_map : ∀ ks, fstL ks = ks.map fstT
  | [] => rfl
  | k :: ks => by rw [fstL, fstL_map ks]; rfl
theorem fstT_nd (q : Bool) (ks : List PT) : fstT (.nd q ks) = (if q then (if ((ks.map fstT).getLastD []).headD 0 < ((ks.map fstT).headD []).headD 0 then (ks.map fstT).reverse else ks.map fstT)
      else (ks.map fstT).mergeSort fun a b => decide (a.headD 0 ≤ b.headD 0)).flatten := by rw [fstT, fstL_map]
/-- The first leaf of the first order. -/
def hd (t : PT) : Nat := (fstT t).headD 0
def srtK (ks : List PT) : List PT := ks.mergeSort fun a b => decide (hd a ≤ hd b)
theorem srtK_perm (ks : List PT) : (srtK ks).Perm ks := List.mergeSort_perm _ _
theorem fstT_P (ks : List PT) : fstT (.nd false ks) = (srtK ks).flatMap fstT := by
  rw [fstT_nd, if_neg (by simp), List.flatMap_def, srtK, List.map_mergeSort]
  intro a _ b _; rfl
theorem getLastD_map {α β : Type} (f : α → β) (d : α) (e : β) : ∀ {l : List α}, l ≠ [] → (l.map f).getLastD e = f (l.getLastD d) := by
  intro l hl
  rcases List.eq_nil_or_concat l with rfl | ⟨L, x, rfl⟩
  · exact absurd rfl hl
  · rw [List.concat_eq_append, List.map_append, List.map_singleton, List.getLastD_concat, List.getLastD_concat]
theorem headD_map {α β : Type} (f : α → β) (d : α) (e : β) : ∀ {l : List α}, l ≠ [] → (l.map f).headD e = f (l.headD d)
  | [], h => absurd rfl h
  | _ :: _, _ => rfl
theorem fstT_Q {ks : List PT} (h : ks ≠ []) : fstT (.nd true ks) = (if hd (ks.getLastD default) < hd (ks.headD default) then ks.reverse else ks).flatMap fstT := by
  rw [fstT_nd, if_pos rfl, getLastD_map fstT default [] h, headD_map fstT default [] h, List.flatMap_def]
  show List.flatten (if hd _ < hd _ then _ else _) = _
  split
  · rw [List.map_reverse]
  · rfl
theorem fst_line {ks : List PT} (h : ∀ k ∈ ks, ∀ l, Fr k l → LE (fstT k) l) : ∀ {l : List Nat}, FrL ks l → LE (ks.flatMap fstT) l := by
  induction ks with
  | nil => intro l hl; obtain rfl : l = [] := hl; exact .inl rfl
  | cons k ks ih =>
    rintro l ⟨a, b, rfl, ha, hb⟩
    rw [List.flatMap_cons]
    exact (h k List.mem_cons_self a ha).app (ih (fun x hx => h x (List.mem_cons_of_mem _ hx)) hb)
theorem fst_frl {ks : List PT} (h : ∀ k ∈ ks, Fr k (fstT k)) : FrL ks (ks.flatMap fstT) := by
  induction ks with
  | nil => rfl
  | cons k ks ih => exact ⟨_, _, List.flatMap_cons, h k List.mem_cons_self, ih fun x hx => h x (List.mem_cons_of_mem _ hx)⟩
theorem fst_sorted {K : List PT} (hs : K.Pairwise fun a b => hd a < hd b) (ok : ∀ k ∈ K, Ok k) (hf : ∀ k ∈ K, Fr k (fstT k)) (h : ∀ k ∈ K, ∀ l, Fr k l → LE (fstT k) l) :
    ∀ {ks : List PT} {l : List Nat}, ks.Perm K → FrL ks l → LE (K.flatMap fstT) l := by
  induction K with
  | nil =>
    intro ks l hp hl
    cases List.perm_nil.1 hp
    obtain rfl : l = [] := hl
    exact .inl rfl
  | cons m K ih =>
    intro ks l hp hl
    obtain ⟨hm, hs'⟩ := List.pairwise_cons.1 hs
    match ks, hp, hl with
    | [], hp, _ => exact absurd hp.length_eq (by simp)
    | k :: ks, hp, hl =>
      obtain ⟨a, b, rfl, ha, hb⟩ := hl
      have hkm : k ∈ m :: K := hp.mem_iff.1 List.mem_cons_self
      have hle := h k hkm a ha
      rw [List.flatMap_cons]
      rcases List.mem_cons.1 hkm with rfl | hk'
      · exact hle.app (ih hs' (fun x hx => ok x (List.mem_cons_of_mem _ hx)) (fun x hx => hf x (List.mem_cons_of_mem _ hx)) (fun x hx => h x (List.mem_cons_of_mem _ hx)) hp.cons_inv hb)
      · have h1 := hm k hk'
        have na := Fr_ne (ok k hkm) ha
        have h2 := hle.head na
        have nm := Fr_ne (ok m List.mem_cons_self) (hf m List.mem_cons_self)
        exact .inr ((LL_head nm na (Nat.lt_of_lt_of_le h1 h2)).append_right _ _)
theorem hd_mem {t : PT} (h : Ok t) (hf : Fr t (fstT t)) : hd t ∈ lvs t := by
  have hne := Fr_ne h hf
  refine (Fr_perm hf).mem_iff.1 ?_
  unfold hd
  match fstT t, hne with
  | x :: l, _ => exact List.mem_cons_self
theorem fst_least {t : PT} (h : Ok t) (hn : (lvs t).Nodup) : Fr t (fstT t) ∧ ∀ l, Fr t l → LE (fstT t) l := by
  induction t using PT.ind with
  | h1 n => exact ⟨rfl, fun l hl => .inl (by obtain rfl : l = [n] := hl; rfl)⟩
  | h2 q ks ih =>
    have hk := h.kids
    rw [lvs_nd] at hn
    have ih1 : ∀ k ∈ ks, Fr k (fstT k) := fun k hk' => (ih k hk' (hk k hk') (kid_nodup hn k hk')).1
    have ih2 : ∀ k ∈ ks, ∀ l, Fr k l → LE (fstT k) l := fun k hk' => (ih k hk' (hk k hk') (kid_nodup hn k hk')).2
    have ap := apart_of hn
    have nd := kids_nodup hk hn
    have hinj : ∀ a ∈ ks, ∀ b ∈ ks, hd a = hd b → a = b := fun a ha b hb e =>
      ap a ha b hb (hd a) (hd_mem (hk a ha) (ih1 a ha)) (by rw [e]; exact hd_mem (hk b hb) (ih1 b hb))
    have h2 := h.two
    have hne : ks ≠ [] := by rintro rfl; simp at h2
    cases q with
    | true =>
      rw [fstT_Q hne]
      have h3 := h.three
      have hA := fst_frl ih1
      have hB : FrL ks.reverse (ks.reverse.flatMap fstT) := fst_frl fun k hk' => ih1 k (List.mem_reverse.1 hk')
      have mA : ∀ l, FrL ks l → LE (ks.flatMap fstT) l := fun l hl => fst_line ih2 hl
      have mB : ∀ l, FrL ks.reverse l → LE (ks.reverse.flatMap fstT) l := fun l hl => fst_line (fun k hk' => ih2 k (List.mem_reverse.1 hk')) hl
      have nA : ks.flatMap fstT ≠ [] := by
        match ks, hne, ih1, hk with
        | k :: r, _, ih1, hk =>
          have := Fr_ne (hk k List.mem_cons_self) (ih1 k List.mem_cons_self)
          simp [this]
      have nB : ks.reverse.flatMap fstT ≠ [] := by
        match hr : ks.reverse with
        | [] => exact absurd (List.reverse_eq_nil_iff.1 hr) hne
        | k :: r =>
          have hkm : k ∈ ks := List.mem_reverse.1 (by rw [hr]; exact List.mem_cons_self)
          have := Fr_ne (hk k hkm) (ih1 k hkm)
          simp [this]
      have hh : ∀ (L : List PT), L ≠ [] → (∀ k ∈ L, k ∈ ks) → (L.flatMap fstT).headD 0 = hd (L.headD default) := by
        intro L hL hm
        match L, hL with
        | k :: r, _ =>
          have := Fr_ne (hk k (hm k List.mem_cons_self)) (ih1 k (hm k List.mem_cons_self))
          rw [List.flatMap_cons]
          unfold hd
          show _ = (fstT k).headD 0
          match fstT k, this with
          | x :: l, _ => rfl
      have eA := hh ks hne fun k hk' => hk'
      have eB := hh ks.reverse (by simpa using hne) fun k hk' => List.mem_reverse.1 hk'
      rw [headD_rev] at eB
      by_cases c : hd (ks.getLastD default) < hd (ks.headD default)
      · rw [if_pos c]
        have hlt : LL (ks.reverse.flatMap fstT) (ks.flatMap fstT) := LL_head nB nA (by rw [eA, eB]; exact c)
        refine ⟨(Fr_Q _ _).2 (.inr hB), fun l hl => ?_⟩
        rcases (Fr_Q _ _).1 hl with hl | hl
        · exact LE.trans (.inr hlt) (mA l hl)
        · exact mB l hl
      · rw [if_neg c]
        have hne' : hd (ks.headD default) ≠ hd (ks.getLastD default) := by
          intro e
          match ks, h3, hne, nd, hinj, e with
          | x :: y :: r, _, _, nd, hinj, e =>
            rcases List.eq_nil_or_concat (y :: r) with e0 | ⟨L, z, e0⟩
            · cases e0
            · rw [e0, List.concat_eq_append] at e nd hinj
              have e1 : (x :: (L ++ [z])).getLastD default = z := by rw [show x :: (L ++ [z]) = (x :: L) ++ [z] from rfl, List.getLastD_concat]
              rw [e1] at e
              have := hinj x List.mem_cons_self z (by simp) e
              subst this
              simp at nd
        have hlt : LL (ks.flatMap fstT) (ks.reverse.flatMap fstT) := LL_head nA nB (by rw [eA, eB]; omega)
        refine ⟨(Fr_Q _ _).2 (.inl hA), fun l hl => ?_⟩
        rcases (Fr_Q _ _).1 hl with hl | hl
        · exact mA l hl
        · exact LE.trans (.inr hlt) (mB l hl)
    | false =>
      rw [fstT_P]
      have hp := srtK_perm ks
      have hm : ∀ k ∈ srtK ks, k ∈ ks := fun k hk' => hp.mem_iff.1 hk'
      have hs : (srtK ks).Pairwise fun a b => hd a < hd b := by
        have h1 : (srtK ks).Pairwise fun a b => decide (hd a ≤ hd b) = true := List.pairwise_mergeSort (le := fun a b => decide (hd a ≤ hd b)) (by intro a b c; simp only [decide_eq_true_eq]; exact Nat.le_trans) (by intro a b; simp only [Bool.or_eq_true, decide_eq_true_eq]; exact Nat.le_total _ _) ks
        have h2 : (srtK ks).Nodup := hp.nodup_iff.2 nd
        refine List.Pairwise.imp_of_mem ?_ (h1.and h2)
        intro a b ha hb hab
        have := of_decide_eq_true hab.1
        have hne : hd a ≠ hd b := fun e => hab.2 (hinj a (hm a ha) b (hm b hb) e)
        omega
      refine ⟨(Fr_P _ _).2 ⟨srtK ks, hp, fst_frl fun k hk' => ih1 k (hm k hk')⟩, fun l hl => ?_⟩
      obtain ⟨ks', hp', hl⟩ := (Fr_P _ _).1 hl
      exact fst_sorted hs (fun k hk' => hk k (hm k hk')) (fun k hk' => ih1 k (hm k hk')) (fun k hk' => ih2 k (hm k hk')) (hp'.trans hp.symm) hl
/-- The least order is the first one. -/
theorem fst_unique {t : PT} (h : Ok t) (hn : (lvs t).Nodup) {l : List Nat} (hl : Fr t l) (hm : ∀ m, Fr t m → LE l m) : l = fstT t :=
  (hm _ (fst_least h hn).1).antisymm ((fst_least h hn).2 l hl)
end Go.Fw.Pq

/- Chapter 28: the text of a tree; trees with the same orders have the same text. -/
namespace Go.Fw.Pq
open Go
mutual
/-- The least leaf. -/
def lst : PT → Nat
  | .leaf n => n
  | .nd _ ks => match lstL ks with
    | [] => 0
    | x :: l => l.foldl min x
def lstL : List PT → List Nat
  | [] => []
  | k :: ks => lst k :: lstL ks
end
theorem lstL_map : ∀ ks, lstL ks = ks.map lst
  | [] => rfl
  | k :: ks => by rw [lstL, lstL_map ks]; rfl
theorem foldl_min (l : List Nat) : ∀ x : Nat, l.foldl min x ≤ x ∧ (∀ y ∈ l, l.foldl min x ≤ y) ∧ (l.foldl min x = x ∨ l.foldl min x ∈ l) := by
  induction l with
  | nil => intro x; exact ⟨Nat.le_refl _, (fun _ h => by cases h), .inl rfl⟩
  | cons a l ih =>
    intro x
    obtain ⟨h1, h2, h3⟩ := ih (min x a)
    rw [List.foldl_cons]
    refine ⟨by omega, fun y hy => ?_, ?_⟩
    · rcases List.mem_cons.1 hy with rfl | hy
      · omega
      · exact h2 y hy
    · rcases h3 with h3 | h3
      · rcases (by omega : min x a = x ∨ min x a = a) with e | e
        · left; omega
        · right; rw [h3, e]; exact List.mem_cons_self
      · right; exact List.mem_cons_of_mem _ h3
theorem lst_spec {t : PT} (h : Ok t) : lst t ∈ lvs t ∧ ∀ x ∈ lvs t, lst t ≤ x := by
  induction t using PT.ind with
  | h1 n => exact ⟨List.mem_cons_self, fun x hx => by rw [List.mem_singleton.1 hx]; exact Nat.le_refl n⟩
  | h2 q ks ih =>
    have hk := h.kids
    have h2 := h.two
    rw [lvs_nd, lst, lstL_map]
    match ks, ih, hk, h2 with
    | k :: ks, ih, hk, _ =>
      obtain ⟨h1, h2, h3⟩ := foldl_min (ks.map lst) (lst k)
      constructor
      · rcases h3 with h3 | h3
        · show (ks.map lst).foldl min (lst k) ∈ _
          rw [h3]
          exact List.mem_flatMap.2 ⟨k, List.mem_cons_self, (ih k List.mem_cons_self (hk k List.mem_cons_self)).1⟩
        · obtain ⟨j, hj, e⟩ := List.mem_map.1 h3
          show (ks.map lst).foldl min (lst k) ∈ _
          rw [← e]
          exact List.mem_flatMap.2 ⟨j, List.mem_cons_of_mem _ hj, (ih j (List.mem_cons_of_mem _ hj) (hk j (List.mem_cons_of_mem _ hj))).1⟩
      · intro x hx
        obtain ⟨j, hj, hx⟩ := List.mem_flatMap.1 hx
        have h5 := (ih j hj (hk j hj)).2 x hx
        rcases List.mem_cons.1 hj with rfl | hj
        · exact Nat.le_trans h1 h5
        · exact Nat.le_trans (h2 _ (List.mem_map_of_mem hj)) h5
theorem lst_eq {t u : PT} (ht : Ok t) (hu : Ok u) (h : ∀ x, x ∈ lvs t ↔ x ∈ lvs u) : lst t = lst u := by
  obtain ⟨a1, a2⟩ := lst_spec ht
  obtain ⟨b1, b2⟩ := lst_spec hu
  have := a2 _ ((h _).2 b1)
  have := b2 _ ((h _).1 a1)
  omega
/-! ## The text -/
def jn (s : List UInt8) : List (List UInt8) → List UInt8
  | [] => []
  | [x] => x
  | x :: y :: l => x ++ s ++ jn s (y :: l)
/-- The kids in the order of the text: their least leaves and their texts. -/
def ordP (ps : List (Nat × List UInt8)) : List (Nat × List UInt8) := ps.mergeSort fun a b => decide (a.1 ≤ b.1)
def ordQ (ps : List (Nat × List UInt8)) : List (Nat × List UInt8) := if (ps.getLastD (0, [])).1 < (ps.headD (0, [])).1 then ps.reverse else ps
mutual
def textT (d : Nat → List UInt8) : PT → List UInt8
  | .leaf n => d n
  | .nd true ks => [91] ++ jn [32] ((ordQ (textL d ks)).map (·.2)) ++ [93]
  | .nd false ks => [40] ++ jn [32] ((ordP (textL d ks)).map (·.2)) ++ [41]
def textL (d : Nat → List UInt8) : List PT → List (Nat × List UInt8)
  | [] => []
  | k :: ks => (lst k, textT d k) :: textL d ks
end
def pr (d : Nat → List UInt8) (k : PT) : Nat × List UInt8 := (lst k, textT d k)
theorem textL_map (d : Nat → List UInt8) : ∀ ks, textL d ks = ks.map (pr d)
  | [] => rfl
  | k :: ks => by rw [textL, textL_map d ks]; rfl
theorem sort_unique {α : Type} {key : α → Nat} : ∀ {l m : List α}, l.Perm m → l.Pairwise (fun a b => key a < key b) → m.Pairwise (fun a b => key a < key b) → l = m
  | [], _, h, _, _ => (List.nil_perm.1 h).symm
  | _ :: _, [], h, _, _ => absurd h.length_eq (by simp)
  | a :: l, b :: m, h, hl, hm => by
    obtain ⟨h1, h2⟩ := List.pairwise_cons.1 hl
    obtain ⟨h3, h4⟩ := List.pairwise_cons.1 hm
    have e : a = b := by
      rcases List.mem_cons.1 (h.mem_iff.1 List.mem_cons_self) with e | ha
      · exact e
      · rcases List.mem_cons.1 (h.mem_iff.2 List.mem_cons_self) with e | hb
        · exact e.symm
        · have := h1 b hb
          have := h3 a ha
          omega
    subst e
    rw [sort_unique h.cons_inv h2 h4]
/-! ## Sets that stand together in all orders -/
/-- The row stands together in every order of the tree. -/
def Tog (S : Nat → Bool) (t : PT) : Prop := ∀ l, Fr t l → Cn S l
theorem EF_rev {S : Nat → Bool} {l : List Nat} (h1 : EF S l) (h2 : EF S l.reverse) : non S l ∨ al S l := by
  obtain ⟨a, b, rfl, ha, hb⟩ := h1
  rcases List.eq_nil_or_concat b with rfl | ⟨c, x, rfl⟩
  · left; rw [List.append_nil]; exact ha
  · right
    rw [List.concat_eq_append] at *
    obtain ⟨d, e, he, hd, hee⟩ := h2
    rw [show (a ++ (c ++ [x])).reverse = x :: (a ++ c).reverse from by simp] at he
    match d, he with
    | [], he =>
      rw [List.nil_append] at he
      intro y hy
      refine hee y ?_
      rw [← he]
      simp only [List.mem_append, List.mem_cons, List.mem_reverse, List.not_mem_nil, or_false] at hy ⊢
      rcases hy with h | h | h
      · exact .inr (.inl h)
      · exact .inr (.inr h)
      · exact .inl h
    | z :: d, he =>
      have : x = z := (List.cons.inj he).1
      subst this
      have h1 := hd x List.mem_cons_self
      rw [hb x (by simp)] at h1
      cases h1
theorem FrL_any (ks : List PT) : FrL ks (ks.flatMap lvs) := FrL_lvs fun k _ => Fr_lvs k
theorem non_not {S : Nat → Bool} {t : PT} (h : Ok t) (h0 : st S t ≠ 0) {l : List Nat} (hl : Fr t l) : ¬ non S l := fun e => h0 ((Fr_zero h hl).2 e)
/-- A partial kid beside another one that has something of the row: some order is torn. -/
theorem torn {S : Nat → Bool} {A B C : List PT} {z x : PT} (oz : Ok z) (ox : Ok x) (hz : st S z = 1) (hx : st S x ≠ 0)
    (h : ∀ l, FrL (A ++ z :: (B ++ x :: C)) l → Cn S l) : False := by
  have key : ∀ lz, Fr z lz → EF S lz := by
    intro lz hlz
    have := h (A.flatMap lvs ++ (lz ++ (B.flatMap lvs ++ (lvs x ++ C.flatMap lvs)))) ((FrL_app _ _ _).2 ⟨_, _, rfl, FrL_any A, lz, _, rfl, hlz, (FrL_app _ _ _).2 ⟨_, _, rfl, FrL_any B, lvs x, _, rfl, Fr_lvs x, FrL_any C⟩⟩)
    have h2 := this.right
    have nx : ¬ non S (lvs x) := non_not ox hx (Fr_lvs x)
    have nz : ¬ non S lz := non_not oz (by omega) hlz
    rcases Cn_app.1 h2 with h' | h' | h'
    · exact absurd h'.1 nz
    · exact absurd (non_app.1 (non_app.1 h'.2).2).1 nx
    · exact h'.1
  rcases EF_rev (key _ (Fr_lvs z)) (key _ (Fr_rev (Fr_lvs z))) with h' | h'
  · have := (Fr_zero oz (Fr_lvs z)).2 h'; omega
  · have := (Fr_two oz (Fr_lvs z)).2 h'; omega
theorem some_one {S : Nat → Bool} {A : List PT} {k : PT} (h : k ∈ A) (h0 : st S k ≠ 0) : some_ S A ≠ 0 := fun e => h0 (some_zero.1 e k h)
/-- What stands together in all orders of a node: it lies in one kid, or is everything, or is made of whole kids in a line. -/
theorem together_in {S : Nat → Bool} {q : Bool} {ks : List PT} (h : Ok (.nd q ks)) (ht : Tog S (.nd q ks)) :
    some_ S ks ≤ 1 ∨ (∀ k ∈ ks, st S k = 2) ∨ (q = true ∧ ∀ k ∈ ks, st S k ≠ 1) := by
  have ok := h.kids
  by_cases h2 : some_ S ks ≤ 1
  · exact .inl h2
  right
  cases q with
  | true =>
    right
    refine ⟨rfl, fun z hz e => ?_⟩
    obtain ⟨A, B, rfl⟩ := List.append_of_mem hz
    have h3 : some_ S A ≠ 0 ∨ some_ S B ≠ 0 := by
      rw [some_app, some_cons, if_neg (by omega)] at h2; omega
    rcases h3 with h3 | h3
    · obtain ⟨A1, x, A2, rfl, _, hx⟩ := first_split h3
      refine torn (S := S) (A := B.reverse) (B := A2.reverse) (C := A1.reverse) (z := z) (x := x) (ok z (by simp)) (ok x (by simp)) e hx fun l hl => ?_
      refine ht l ((Fr_Q _ _).2 (.inr ?_))
      rw [show (A1 ++ x :: A2 ++ z :: B).reverse = B.reverse ++ z :: (A2.reverse ++ x :: A1.reverse) from by simp]
      exact hl
    · obtain ⟨B1, x, B2, rfl, _, hx⟩ := first_split h3
      exact torn (S := S) (A := A) (B := B1) (C := B2) (z := z) (x := x) (ok z (by simp)) (ok x (by simp)) e hx fun l hl => ht l ((Fr_Q _ _).2 (.inl hl))
  | false =>
    left
    intro z hz
    obtain ⟨A, B, e0⟩ := List.append_of_mem hz
    have hp : (z :: (A ++ B)).Perm ks := by rw [e0]; exact List.perm_middle.symm
    have hs : some_ S (z :: (A ++ B)) = some_ S ks := some_perm hp
    have hle := st_le S z
    rcases (by omega : st S z = 2 ∨ st S z = 1 ∨ st S z = 0) with e | e | e
    · exact e
    · exfalso
      rw [some_cons, if_neg (by omega)] at hs
      obtain ⟨R1, x, R2, e1, _, hx⟩ := first_split (S := S) (ks := A ++ B) (by omega)
      refine torn (S := S) (A := []) (B := R1) (C := R2) (z := z) (x := x) (ok z hz) (ok x (hp.mem_iff.1 (by rw [e1]; simp))) e hx fun l hl => ht l ((Fr_P _ _).2 ⟨_, ?_, hl⟩)
      rw [← e1]; exact hp
    · exfalso
      rw [some_cons, if_pos e, Nat.zero_add] at hs
      obtain ⟨A1, x, M, y, B1, e1, _, _, hx, hy⟩ := two_split (S := S) (ks := A ++ B) (by omega)
      have ox : Ok x := ok x (hp.mem_iff.1 (by rw [e1]; simp))
      have oy : Ok y := ok y (hp.mem_iff.1 (by rw [e1]; simp))
      have hfr : Fr (.nd false ks) (lvs x ++ (lvs z ++ (lvs y ++ (A1 ++ M ++ B1).flatMap lvs))) := by
        refine (Fr_P _ _).2 ⟨x :: z :: y :: (A1 ++ M ++ B1), ?_, lvs x, _, rfl, Fr_lvs x, lvs z, _, rfl, Fr_lvs z, lvs y, _, rfl, Fr_lvs y, FrL_any _⟩
        refine List.Perm.trans ?_ hp
        rw [e1]
        refine List.Perm.trans (.swap _ _ _) (List.Perm.cons z ?_)
        refine List.Perm.trans ?_ (List.perm_middle.symm)
        refine List.Perm.cons x ?_
        rw [← List.append_assoc]
        exact List.perm_middle.symm
      have hc := ht _ hfr
      have nx : ¬ non S (lvs x) := non_not ox hx (Fr_lvs x)
      have ny : ¬ non S (lvs y) := non_not oy hy (Fr_lvs y)
      have nz : non S (lvs z) := (Fr_zero (ok z hz) (Fr_lvs z)).1 e
      rw [← List.append_assoc, ← List.append_assoc] at hc
      have hc := hc.left
      rw [List.append_assoc, Cn_mid nx ny] at hc
      exact non_al ((ok z hz).lvs_ne) nz hc.2.1
end Go.Fw.Pq

/- Chapter 28: two trees with the same orders have the same text. -/
namespace Go.Fw.Pq
open Go
theorem rowS_iff {r : List Nat} {x : Nat} : rowS r x = true ↔ x ∈ r := by unfold rowS; exact List.contains_iff_mem
theorem rowS_not {r : List Nat} {x : Nat} : rowS r x = false ↔ x ∉ r := by rw [← rowS_iff]; simp
/-- A block of kids in an order. -/
theorem blk {A M B : List PT} (hn : ((A ++ (M ++ B)).flatMap lvs).Nodup) {l : List Nat} (h : FrL (A ++ (M ++ B)) l) :
    ∃ a m b, l = a ++ m ++ b ∧ FrL M m ∧ non (rowS (M.flatMap lvs)) a ∧ al (rowS (M.flatMap lvs)) m ∧ non (rowS (M.flatMap lvs)) b := by
  obtain ⟨a, r, rfl, ha, h⟩ := (FrL_app _ _ _).1 h
  obtain ⟨m, b, rfl, hm, hb⟩ := (FrL_app _ _ _).1 h
  rw [List.flatMap_append, List.flatMap_append, List.nodup_append, List.nodup_append] at hn
  obtain ⟨_, ⟨_, _, h2⟩, h1⟩ := hn
  refine ⟨a, m, b, by simp, hm, fun x hx => rowS_not.2 fun hx' => ?_, fun x hx => rowS_iff.2 ((FrL_perm hm).mem_iff.1 hx), fun x hx => rowS_not.2 fun hx' => ?_⟩
  · exact h1 x ((FrL_perm ha).mem_iff.1 hx) x (List.mem_append_left _ hx') rfl
  · exact h2 x hx' x ((FrL_perm hb).mem_iff.1 hx) rfl
theorem filter_blk {S : Nat → Bool} {a m b : List Nat} (h1 : non S a) (h2 : al S m) (h3 : non S b) : (a ++ m ++ b).filter S = m := by
  have e1 : a.filter S = [] := List.filter_eq_nil_iff.2 fun x hx => by rw [h1 x hx]; simp
  have e3 : b.filter S = [] := List.filter_eq_nil_iff.2 fun x hx => by rw [h3 x hx]; simp
  rw [List.filter_append, List.filter_append, e1, e3, List.filter_eq_self.2 h2]
  simp
theorem perm_nodup {ks ks' : List PT} (h : ks'.Perm ks) (hn : (ks.flatMap lvs).Nodup) : (ks'.flatMap lvs).Nodup := (h.flatMap_right lvs).nodup_iff.2 hn
/-- Some order of the kids stands behind every order of a node. -/
theorem Fr_some {q : Bool} {ks : List PT} {l : List Nat} (h : Fr (.nd q ks) l) : ∃ ks', ks'.Perm ks ∧ FrL ks' l ∧ (q = true → ks' = ks ∨ ks' = ks.reverse) := by
  cases q with
  | true =>
    rcases (Fr_Q _ _).1 h with h | h
    · exact ⟨ks, .refl _, h, fun _ => .inl rfl⟩
    · exact ⟨ks.reverse, List.reverse_perm _, h, fun _ => .inr rfl⟩
  | false =>
    obtain ⟨ks', hp, h⟩ := (Fr_P _ _).1 h
    exact ⟨ks', hp, h, fun e => by cases e⟩
theorem Fr_own {q : Bool} {ks : List PT} {l : List Nat} (h : FrL ks l) : Fr (.nd q ks) l := by
  cases q with
  | true => exact (Fr_Q _ _).2 (.inl h)
  | false => exact (Fr_P _ _).2 ⟨ks, .refl _, h⟩
theorem kid_out {q : Bool} {ks : List PT} (hn : (ks.flatMap lvs).Nodup) {k : PT} (hk : k ∈ ks) {l : List Nat} (h : Fr (.nd q ks) l) :
    Cn (rowS (lvs k)) l ∧ Fr k (l.filter (rowS (lvs k))) := by
  obtain ⟨ks', hp, hl, _⟩ := Fr_some h
  obtain ⟨A, B, rfl⟩ := List.append_of_mem (hp.mem_iff.2 hk)
  obtain ⟨a, m, b, rfl, hm, h1, h2, h3⟩ := blk (A := A) (M := [k]) (B := B) (perm_nodup hp hn) hl
  rw [show [k].flatMap lvs = lvs k from by simp] at h1 h2 h3
  rw [filter_blk h1 h2 h3]
  exact ⟨⟨a, m, b, rfl, h1, h2, h3⟩, (FrL_one _ _).1 hm⟩
theorem kid_in {q : Bool} {ks : List PT} (hn : (ks.flatMap lvs).Nodup) {k : PT} (hk : k ∈ ks) {m : List Nat} (h : Fr k m) :
    ∃ l, Fr (.nd q ks) l ∧ l.filter (rowS (lvs k)) = m := by
  obtain ⟨A, B, rfl⟩ := List.append_of_mem hk
  have hl : FrL (A ++ k :: B) (A.flatMap lvs ++ (m ++ B.flatMap lvs)) := (FrL_app _ _ _).2 ⟨_, _, rfl, FrL_any A, m, _, rfl, h, FrL_any B⟩
  refine ⟨_, Fr_own hl, ?_⟩
  rw [List.flatMap_append, List.flatMap_cons, List.nodup_append, List.nodup_append] at hn
  obtain ⟨_, ⟨_, _, h2⟩, h1⟩ := hn
  rw [← List.append_assoc]
  refine filter_blk (fun x hx => rowS_not.2 fun hx' => ?_) (fun x hx => rowS_iff.2 ((Fr_perm h).mem_iff.1 hx)) (fun x hx => rowS_not.2 fun hx' => ?_)
  · exact h1 x hx x (List.mem_append_left _ hx') rfl
  · exact h2 x hx' x hx rfl
/-- Two kids side by side in a line stand together in all orders. -/
theorem pair_tog {A B : List PT} {a b : PT} (hn : ((A ++ a :: b :: B).flatMap lvs).Nodup) : Tog (rowS (lvs a ++ lvs b)) (.nd true (A ++ a :: b :: B)) := by
  intro l h
  have e1 : [a, b].flatMap lvs = lvs a ++ lvs b := by simp
  rcases (Fr_Q _ _).1 h with h | h
  · obtain ⟨x, m, y, rfl, _, h1, h2, h3⟩ := blk (A := A) (M := [a, b]) (B := B) hn h
    rw [e1] at h1 h2 h3
    exact ⟨x, m, y, rfl, h1, h2, h3⟩
  · have h := FrL_rev.1 h
    obtain ⟨x, m, y, e, _, h1, h2, h3⟩ := blk (A := A) (M := [a, b]) (B := B) hn h
    rw [e1] at h1 h2 h3
    exact Cn_rev.1 ⟨x, m, y, e, h1, h2, h3⟩
theorem st_has {r : List Nat} {k : PT} (h : Ok k) {x : Nat} (hx : x ∈ lvs k) (hr : x ∈ r) : st (rowS r) k ≠ 0 := by
  rw [Ne, st_zero h]
  intro h'
  have := h' x hx
  rw [rowS_iff.2 hr] at this
  cases this
theorem has_st {r : List Nat} {k : PT} (h : Ok k) (h0 : st (rowS r) k ≠ 0) : ∃ x, x ∈ lvs k ∧ x ∈ r := by
  refine Classical.byContradiction fun hc => h0 ((st_zero h).2 fun x hx => rowS_not.2 fun hr => hc ⟨x, hx, hr⟩)
theorem st_full {r : List Nat} {k : PT} (h : Ok k) (h2 : st (rowS r) k = 2) : ∀ x ∈ lvs k, x ∈ r := fun x hx => rowS_iff.1 ((st_two h).1 h2 x hx)
theorem some_uniq {S : Nat → Bool} {js : List PT} (h : some_ S js ≤ 1) {j j' : PT} (hj : j ∈ js) (hj' : j' ∈ js) (h0 : st S j ≠ 0) (h0' : st S j' ≠ 0) : j' = j := by
  obtain ⟨A, B, rfl⟩ := List.append_of_mem hj
  rw [some_app, some_cons, if_neg h0] at h
  rcases List.mem_append.1 hj' with h' | h'
  · have := some_one h' h0'; omega
  · rcases List.mem_cons.1 h' with h' | h'
    · exact h'
    · have := some_one h' h0'; omega
theorem some_le {S : Nat → Bool} {js : List PT} (hn : js.Nodup) {f : PT} (h : ∀ j ∈ js, st S j ≠ 0 → j = f) : some_ S js ≤ 1 := by
  refine Classical.byContradiction fun hc => ?_
  obtain ⟨A, x, M, y, B, rfl, _, _, hx, hy⟩ := two_split (S := S) (ks := js) (by omega)
  have e1 := h x (by simp) hx
  have e2 := h y (by simp) hy
  subst e1
  subst e2
  simp [List.nodup_append] at hn
theorem change {S : Nat → Bool} : ∀ {js : List PT}, (∀ j ∈ js, st S j = 0 ∨ st S j = 2) → (∃ j ∈ js, st S j = 0) → (∃ j ∈ js, st S j = 2) →
    ∃ A a b B, js = A ++ a :: b :: B ∧ ((st S a = 2 ∧ st S b = 0) ∨ (st S a = 0 ∧ st S b = 2))
  | [], _, ⟨_, h, _⟩, _ => by cases h
  | [a], _, ⟨x, hx, e0⟩, ⟨y, hy, e2⟩ => by
    rw [List.mem_singleton.1 hx] at e0
    rw [List.mem_singleton.1 hy] at e2
    omega
  | a :: b :: js, h, h0, h2 => by
    have ha := h a List.mem_cons_self
    have hb := h b (by simp)
    by_cases e : st S a = st S b
    · obtain ⟨A, c, d, B, e1, e2⟩ := change (js := b :: js) (fun j hj => h j (List.mem_cons_of_mem _ hj))
        (by
          obtain ⟨x, hx, e0⟩ := h0
          rcases List.mem_cons.1 hx with rfl | hx
          · exact ⟨b, List.mem_cons_self, by omega⟩
          · exact ⟨x, hx, e0⟩)
        (by
          obtain ⟨x, hx, e0⟩ := h2
          rcases List.mem_cons.1 hx with rfl | hx
          · exact ⟨b, List.mem_cons_self, by omega⟩
          · exact ⟨x, hx, e0⟩)
      exact ⟨a :: A, c, d, B, by rw [e1]; rfl, e2⟩
    · exact ⟨[], a, b, js, rfl, by omega⟩
theorem mem_kid {ks : List PT} {x : Nat} (h : x ∈ ks.flatMap lvs) : ∃ k ∈ ks, x ∈ lvs k := List.mem_flatMap.1 h
theorem leaf_of {k : PT} (h : Ok k) : ∃ x, x ∈ lvs k := by
  have := h.lvs_ne
  match hl : lvs k, this with
  | x :: l, _ => exact ⟨x, List.mem_cons_self⟩
theorem other {ks : List PT} (hn : ks.Nodup) (h2 : 2 ≤ ks.length) (k : PT) : ∃ k' ∈ ks, k' ≠ k := by
  match ks, h2, hn with
  | a :: b :: r, _, hn =>
    by_cases e : a = k
    · refine ⟨b, by simp, fun e' => ?_⟩
      subst e e'
      simp at hn
    · exact ⟨a, by simp, e⟩
theorem third {A B : List PT} {a b : PT} (hn : (A ++ a :: b :: B).Nodup) (h3 : 3 ≤ (A ++ a :: b :: B).length) : ∃ c ∈ A ++ a :: b :: B, c ≠ a ∧ c ≠ b := by
  match A, B, h3, hn with
  | c :: A, B, _, hn =>
    refine ⟨c, by simp, ?_, ?_⟩
    · rintro rfl; simp at hn
    · rintro rfl; simp at hn
  | [], c :: B, _, hn =>
    refine ⟨c, by simp, ?_, ?_⟩
    · rintro rfl; simp at hn
    · rintro rfl; simp at hn
  | [], [], h3, _ => simp at h3
section
variable {q p : Bool} {ks js : List PT}
/-- Each kid of the one lies in a kid of the other. -/
theorem inside (ht : Ok (.nd q ks)) (hu : Ok (.nd p js)) (nt : (ks.flatMap lvs).Nodup) (nu : (js.flatMap lvs).Nodup) (h : ∀ l, Fr (.nd q ks) l ↔ Fr (.nd p js) l)
    (hm : ∀ x, x ∈ ks.flatMap lvs ↔ x ∈ js.flatMap lvs) {k : PT} (hk : k ∈ ks) : ∃ j ∈ js, ∀ x ∈ lvs k, x ∈ lvs j := by
  have okt := ht.kids
  have oku := hu.kids
  have apt := apart_of nt
  have apu := apart_of nu
  have kn := kids_nodup okt nt
  have jn := kids_nodup oku nu
  have up : ∀ x ∈ lvs k, ∃ j ∈ js, x ∈ lvs j := fun x hx => mem_kid ((hm x).1 (List.mem_flatMap.2 ⟨k, hk, hx⟩))
  have hT : Tog (rowS (lvs k)) (.nd p js) := fun l hl => (kid_out nt hk ((h l).2 hl)).1
  have one : some_ (rowS (lvs k)) js ≤ 1 → ∃ j ∈ js, ∀ x ∈ lvs k, x ∈ lvs j := by
    intro h1
    obtain ⟨x0, hx0⟩ := leaf_of (okt k hk)
    obtain ⟨j, hj, hxj⟩ := up x0 hx0
    refine ⟨j, hj, fun x hx => ?_⟩
    obtain ⟨j', hj', hxj'⟩ := up x hx
    rw [← some_uniq h1 hj hj' (st_has (oku j hj) hxj hx0) (st_has (oku j' hj') hxj' hx)]
    exact hxj'
  have nofull : ¬ ∀ j ∈ js, st (rowS (lvs k)) j = 2 := by
    intro hf
    obtain ⟨k', hk', hne⟩ := other kn ht.two k
    obtain ⟨x, hx⟩ := leaf_of (okt k' hk')
    obtain ⟨j, hj, hxj⟩ := mem_kid ((hm x).1 (List.mem_flatMap.2 ⟨k', hk', hx⟩))
    exact hne (apt k' hk' k hk x hx (st_full (oku j hj) (hf j hj) x hxj))
  rcases together_in hu hT with h1 | h1 | ⟨rfl, h1⟩
  · exact one h1
  · exact absurd h1 nofull
  · by_cases h2 : some_ (rowS (lvs k)) js ≤ 1
    · exact one h2
    exfalso
    have hst : ∀ j ∈ js, st (rowS (lvs k)) j = 0 ∨ st (rowS (lvs k)) j = 2 := fun j hj => by have := h1 j hj; have := st_le (rowS (lvs k)) j; omega
    have hz : ∃ j ∈ js, st (rowS (lvs k)) j = 0 := by
      refine Classical.byContradiction fun hc => nofull fun j hj => ?_
      rcases hst j hj with e | e
      · exact absurd ⟨j, hj, e⟩ hc
      · exact e
    have hfl : ∃ j ∈ js, st (rowS (lvs k)) j = 2 := by
      obtain ⟨x0, hx0⟩ := leaf_of (okt k hk)
      obtain ⟨j, hj, hxj⟩ := up x0 hx0
      have := st_has (oku j hj) hxj hx0
      exact ⟨j, hj, by have := hst j hj; omega⟩
    obtain ⟨A, a, b, B, rfl, hab⟩ := change hst hz hfl
    have hS : Tog (rowS (lvs a ++ lvs b)) (.nd q ks) := fun l hl => pair_tog nu l ((h l).1 hl)
    have key : ∀ f z, f ∈ A ++ a :: b :: B → z ∈ A ++ a :: b :: B → st (rowS (lvs k)) f = 2 → st (rowS (lvs k)) z = 0 → (∀ x, x ∈ lvs a ++ lvs b ↔ x ∈ lvs f ∨ x ∈ lvs z) → False := by
      intro f z hf hz' ef ez hfz
      have fk := st_full (oku f hf) ef
      obtain ⟨x, hx⟩ := leaf_of (oku f hf)
      obtain ⟨y, hy⟩ := leaf_of (oku z hz')
      have yk : y ∉ lvs k := fun h' => (st_has (oku z hz') hy h') ez
      obtain ⟨k', hk', hyk'⟩ := mem_kid ((hm y).2 (List.mem_flatMap.2 ⟨z, hz', hy⟩))
      have s1 : st (rowS (lvs a ++ lvs b)) k ≠ 0 := st_has (okt k hk) (fk x hx) ((hfz x).2 (.inl hx))
      have s2 : st (rowS (lvs a ++ lvs b)) k' ≠ 0 := st_has (okt k' hk') hyk' ((hfz y).2 (.inr hy))
      rcases together_in ht hS with h3 | h3 | ⟨_, h3⟩
      · have := some_uniq h3 hk hk' s1 s2
        subst this
        exact yk hyk'
      · obtain ⟨c, hc, ca, cb⟩ := third jn hu.three
        obtain ⟨w, hw⟩ := leaf_of (oku c hc)
        obtain ⟨k2, hk2, hwk⟩ := mem_kid ((hm w).2 (List.mem_flatMap.2 ⟨c, hc, hw⟩))
        rcases List.mem_append.1 (st_full (okt k2 hk2) (h3 k2 hk2) w hwk) with h4 | h4
        · exact ca (apu c hc a (by simp) w hw h4)
        · exact cb (apu c hc b (by simp) w hw h4)
      · have h4 : st (rowS (lvs a ++ lvs b)) k = 2 := by have := h3 k hk; have := st_le (rowS (lvs a ++ lvs b)) k; omega
        apply h2
        refine some_le jn (f := f) fun j hj hj0 => ?_
        obtain ⟨w, hwj, hwk⟩ := has_st (oku j hj) hj0
        rcases (hfz w).1 (st_full (okt k hk) h4 w hwk) with h5 | h5
        · exact apu j hj f hf w hwj h5
        · exact absurd ez (st_has (oku z hz') h5 hwk)
    rcases hab with ⟨e1, e2⟩ | ⟨e1, e2⟩
    · exact key a b (by simp) (by simp) e1 e2 fun x => List.mem_append
    · exact key b a (by simp) (by simp) e2 e1 fun x => by rw [List.mem_append]; exact Or.comm
/-- Each kid of the one is a kid of the other. -/
theorem matched (ht : Ok (.nd q ks)) (hu : Ok (.nd p js)) (nt : (ks.flatMap lvs).Nodup) (nu : (js.flatMap lvs).Nodup) (h : ∀ l, Fr (.nd q ks) l ↔ Fr (.nd p js) l)
    (hm : ∀ x, x ∈ ks.flatMap lvs ↔ x ∈ js.flatMap lvs) {k : PT} (hk : k ∈ ks) : ∃ j ∈ js, (∀ x, x ∈ lvs k ↔ x ∈ lvs j) ∧ ∀ l, Fr k l ↔ Fr j l := by
  obtain ⟨j, hj, h1⟩ := inside ht hu nt nu h hm hk
  obtain ⟨k', hk', h2⟩ := inside hu ht nu nt (fun l => (h l).symm) (fun x => (hm x).symm) hj
  obtain ⟨x, hx⟩ := leaf_of (ht.kids k hk)
  have e := apart_of nt k' hk' k hk x (h2 x (h1 x hx)) hx
  subst e
  have hxx : ∀ x, x ∈ lvs k' ↔ x ∈ lvs j := fun x => ⟨h1 x, h2 x⟩
  have hrow : rowS (lvs k') = rowS (lvs j) := by
    funext x
    by_cases c : x ∈ lvs k'
    · rw [rowS_iff.2 c, rowS_iff.2 (h1 x c)]
    · rw [rowS_not.2 c, rowS_not.2 fun h' => c (h2 x h')]
  refine ⟨j, hj, hxx, fun l => ⟨fun hl => ?_, fun hl => ?_⟩⟩
  · obtain ⟨m, hm1, rfl⟩ := kid_in (q := q) nt hk hl
    rw [hrow]
    exact (kid_out nu hj ((h m).1 hm1)).2
  · obtain ⟨m, hm1, rfl⟩ := kid_in (q := p) nu hj hl
    rw [← hrow]
    exact (kid_out nt hk ((h m).2 hm1)).2
end
theorem align {d : Nat → List UInt8} {K J : List PT} (okK : ∀ k ∈ K, Ok k) (okJ : ∀ j ∈ J, Ok j) (apJ : Apart J)
    (H : ∀ k ∈ K, ∃ j ∈ J, (∀ x, x ∈ lvs k ↔ x ∈ lvs j) ∧ (lvs k).length = (lvs j).length ∧ pr d k = pr d j) :
    ∀ {ks js : List PT} {l : List Nat}, (∀ k ∈ ks, k ∈ K) → (∀ j ∈ js, j ∈ J) → FrL ks l → FrL js l → ks.map (pr d) = js.map (pr d)
  | [], [], _, _, _, _, _ => rfl
  | [], j :: js, l, _, h2, hl, hl' => by
    obtain rfl : l = [] := hl
    obtain ⟨a, b, e, ha, _⟩ := hl'
    exact absurd (List.append_eq_nil_iff.1 e.symm).1 (Fr_ne (okJ j (h2 j List.mem_cons_self)) ha)
  | k :: ks, [], l, h1, _, hl, hl' => by
    obtain rfl : l = [] := hl'
    obtain ⟨a, b, e, ha, _⟩ := hl
    exact absurd (List.append_eq_nil_iff.1 e.symm).1 (Fr_ne (okK k (h1 k List.mem_cons_self)) ha)
  | k :: ks, j :: js, l, h1, h2, hl, hl' => by
    obtain ⟨a, b, rfl, ha, hb⟩ := hl
    obtain ⟨a', b', e, ha', hb'⟩ := hl'
    have na := Fr_ne (okK k (h1 k List.mem_cons_self)) ha
    have na' := Fr_ne (okJ j (h2 j List.mem_cons_self)) ha'
    obtain ⟨j0, hj0, hx, hlen, hp⟩ := H k (h1 k List.mem_cons_self)
    have hj : j0 = j := by
      match a, a', na, na', e with
      | x :: a, y :: a', _, _, e =>
        have e1 : x = y := (List.cons.inj e).1
        exact apJ j0 hj0 j (h2 j List.mem_cons_self) x ((hx x).1 ((Fr_perm ha).mem_iff.1 List.mem_cons_self)) ((Fr_perm ha').mem_iff.1 (by rw [e1]; exact List.mem_cons_self))
    subst hj
    have hl2 : a.length = a'.length := by rw [(Fr_perm ha).length_eq, (Fr_perm ha').length_eq, hlen]
    obtain ⟨rfl, rfl⟩ := List.append_inj e hl2
    rw [List.map_cons, List.map_cons, hp, align okK okJ apJ H (fun x hx => h1 x (List.mem_cons_of_mem _ hx)) (fun x hx => h2 x (List.mem_cons_of_mem _ hx)) hb hb']
theorem ordP_eq {ps ps' : List (Nat × List UInt8)} (h : ps'.Perm ps) (hs : ps'.Pairwise fun a b => a.1 < b.1) : ordP ps = ps' := by
  have h1 : (ordP ps).Perm ps := List.mergeSort_perm _ _
  refine sort_unique (key := fun a => a.1) (h1.trans h.symm) ?_ hs
  have h2 : (ordP ps).Pairwise fun a b => decide (a.1 ≤ b.1) = true := List.pairwise_mergeSort (le := fun a b : Nat × List UInt8 => decide (a.1 ≤ b.1)) (by intro a b c; simp only [decide_eq_true_eq]; exact Nat.le_trans) (by intro a b; simp only [Bool.or_eq_true, decide_eq_true_eq]; exact Nat.le_total _ _) ps
  have h3 : ((ordP ps).map (·.1)).Nodup := by
    refine ((h1.trans h.symm).map (·.1)).nodup_iff.2 ?_
    unfold List.Nodup
    rw [List.pairwise_map]
    exact hs.imp fun h => by omega
  unfold List.Nodup at h3
  rw [List.pairwise_map] at h3
  refine (h2.and h3).imp fun {a b} h => ?_
  have := of_decide_eq_true h.1
  have := h.2
  omega
theorem ordQ_rev {ps : List (Nat × List UInt8)} (h : (ps.headD (0, [])).1 ≠ (ps.getLastD (0, [])).1) : ordQ ps.reverse = ordQ ps := by
  have e1 : ps.reverse.getLastD (0, []) = ps.headD (0, []) := by
    match ps with
    | [] => rfl
    | x :: l => rw [List.reverse_cons, List.getLastD_concat]; rfl
  have e2 : ps.reverse.headD (0, []) = ps.getLastD (0, []) := by
    rcases List.eq_nil_or_concat ps with rfl | ⟨L, x, rfl⟩
    · rfl
    · rw [List.concat_eq_append, List.getLastD_concat, List.reverse_append]; rfl
  unfold ordQ
  rw [e1, e2, List.reverse_reverse]
  by_cases c : (ps.headD (0, [])).1 < (ps.getLastD (0, [])).1
  · rw [if_pos c, if_neg (by omega)]
  · rw [if_neg c, if_pos (by omega)]
/-- A node in any order and a node in a line never have the same orders. -/
theorem no_PQ {ks js : List PT} (ht : Ok (.nd false ks)) (hu : Ok (.nd true js)) (nt : (ks.flatMap lvs).Nodup) (nu : (js.flatMap lvs).Nodup) (h : ∀ l, Fr (.nd false ks) l ↔ Fr (.nd true js) l)
    (hm : ∀ x, x ∈ ks.flatMap lvs ↔ x ∈ js.flatMap lvs) : False := by
  have apu := apart_of nu
  have jn := kids_nodup hu.kids nu
  match js, hu, nu, h, hm, apu, jn, hu.three with
  | a :: b :: c :: r, hu, nu, h, hm, apu, jn, _ =>
    have hS : Tog (rowS (lvs a ++ lvs b)) (.nd false ks) := fun l hl => pair_tog (A := []) (B := c :: r) nu l ((h l).1 hl)
    obtain ⟨k1, hk1, m1, _⟩ := matched hu ht nu nt (fun l => (h l).symm) (fun x => (hm x).symm) (k := a) (by simp)
    obtain ⟨k2, hk2, m2, _⟩ := matched hu ht nu nt (fun l => (h l).symm) (fun x => (hm x).symm) (k := b) (by simp)
    obtain ⟨x, hx⟩ := leaf_of (hu.kids a (by simp))
    obtain ⟨y, hy⟩ := leaf_of (hu.kids b (by simp))
    rcases together_in ht hS with h3 | h3 | ⟨e, _⟩
    · have := some_uniq h3 hk1 hk2 (st_has (ht.kids k1 hk1) ((m1 x).1 hx) (List.mem_append_left _ hx)) (st_has (ht.kids k2 hk2) ((m2 y).1 hy) (List.mem_append_right _ hy))
      subst this
      have := apu a (by simp) b (by simp) x hx ((m2 x).2 ((m1 x).1 hx))
      subst this
      simp at jn
    · obtain ⟨w, hw⟩ := leaf_of (hu.kids c (by simp))
      obtain ⟨k3, hk3, hwk⟩ := mem_kid ((hm w).2 (List.mem_flatMap.2 ⟨c, by simp, hw⟩))
      rcases List.mem_append.1 (st_full (ht.kids k3 hk3) (h3 k3 hk3) w hwk) with h4 | h4
      · have := apu c (by simp) a (by simp) w hw h4
        subst this
        simp at jn
      · have := apu c (by simp) b (by simp) w hw h4
        subst this
        simp at jn
    · cases e
theorem leaves_two {q : Bool} {ks : List PT} (h : Ok (.nd q ks)) : 2 ≤ (lvs (.nd q ks)).length := by
  have ok := h.kids
  rw [lvs_nd]
  match ks, h.two, ok with
  | a :: b :: r, _, ok =>
    have h1 := (ok a (by simp)).lvs_ne
    have h2 := (ok b (by simp)).lvs_ne
    have l1 := List.length_pos_iff.2 h1
    have l2 := List.length_pos_iff.2 h2
    simp only [List.flatMap_cons, List.length_append]
    omega
/-- Two trees with the same orders have the same text. -/
theorem text_unique (d : Nat → List UInt8) {t : PT} (ht : Ok t) (nt : (lvs t).Nodup) : ∀ {u : PT}, Ok u → (∀ l, Fr t l ↔ Fr u l) → textT d t = textT d u := by
  induction t using PT.ind with
  | h1 n =>
    intro u hu h
    have hp := Fr_perm ((h _).2 (Fr_lvs u))
    match u, hu, h, hp with
    | .leaf m, _, h, _ =>
      have : Fr (.leaf m) [n] := (h [n]).1 rfl
      have : [n] = [m] := this
      cases this; rfl
    | .nd q js, hu, _, hp =>
      have := leaves_two hu
      rw [hp.length_eq] at this
      simp [lvs] at this
  | h2 q ks ih =>
    intro u hu h
    have hp : (lvs u).Perm (lvs (.nd q ks)) := Fr_perm ((h _).2 (Fr_lvs u))
    match u, hu, h, hp with
    | .leaf m, _, _, hp =>
      have := leaves_two ht
      rw [← hp.length_eq] at this
      simp [lvs] at this
    | .nd p js, hu, h, hp =>
      rw [lvs_nd] at nt
      rw [lvs_nd, lvs_nd] at hp
      have nu : (js.flatMap lvs).Nodup := hp.nodup_iff.2 nt
      have hm : ∀ x, x ∈ ks.flatMap lvs ↔ x ∈ js.flatMap lvs := fun x => hp.mem_iff.symm
      have okt := ht.kids
      have oku := hu.kids
      have apt := apart_of nt
      have apu := apart_of nu
      have H : ∀ k ∈ ks, ∃ j ∈ js, (∀ x, x ∈ lvs k ↔ x ∈ lvs j) ∧ (lvs k).length = (lvs j).length ∧ pr d k = pr d j := by
        intro k hk
        obtain ⟨j, hj, h1, h2⟩ := matched ht hu nt nu h hm hk
        refine ⟨j, hj, h1, (Fr_perm ((h2 _).1 (Fr_lvs k))).length_eq, ?_⟩
        unfold pr
        rw [lst_eq (okt k hk) (oku j hj) h1, ih k hk (okt k hk) (kid_nodup nt k hk) (oku j hj) h2]
      have lne' : ∀ a b : PT, a ∈ ks → b ∈ ks → lst a = lst b → a = b := fun a b ha hb e =>
        apt a ha b hb (lst a) (lst_spec (okt a ha)).1 (by rw [e]; exact (lst_spec (okt b hb)).1)
      have kn := kids_nodup okt nt
      cases q with
      | false =>
        cases p with
        | true => exact (no_PQ ht hu nt nu h hm).elim
        | false =>
          have pK : (ks.mergeSort fun a b => decide (lst a ≤ lst b)).Perm ks := List.mergeSort_perm _ _
          have sK : (ks.mergeSort fun a b => decide (lst a ≤ lst b)).Pairwise fun a b => lst a < lst b := by
            have h1 : (ks.mergeSort fun a b => decide (lst a ≤ lst b)).Pairwise fun a b => decide (lst a ≤ lst b) = true := List.pairwise_mergeSort (le := fun a b => decide (lst a ≤ lst b)) (by intro a b c; simp only [decide_eq_true_eq]; exact Nat.le_trans) (by intro a b; simp only [Bool.or_eq_true, decide_eq_true_eq]; exact Nat.le_total _ _) ks
            refine List.Pairwise.imp_of_mem ?_ (h1.and (pK.nodup_iff.2 kn))
            intro a b ha hb hab
            have := of_decide_eq_true hab.1
            have hne : lst a ≠ lst b := fun e => hab.2 (lne' a b (pK.mem_iff.1 ha) (pK.mem_iff.1 hb) e)
            omega
          generalize (ks.mergeSort fun a b => decide (lst a ≤ lst b)) = K at pK sK
          have hl := FrL_any K
          obtain ⟨js', pJ, hl'⟩ := (Fr_P _ _).1 ((h _).1 ((Fr_P _ _).2 ⟨K, pK, hl⟩))
          have e := align okt oku apu H (fun k hk => pK.mem_iff.1 hk) (fun j hj => pJ.mem_iff.1 hj) hl hl'
          have sK' : (K.map (pr d)).Pairwise fun a b => a.1 < b.1 := by rw [List.pairwise_map]; exact sK
          have e1 := ordP_eq (pK.map (pr d)) sK'
          have e2 := ordP_eq (pJ.map (pr d)) (by rw [← e]; exact sK')
          rw [textT, textT, textL_map, textL_map, e1, e2, e]
      | true =>
        cases p with
        | false => exact (no_PQ hu ht nu nt (fun l => (h l).symm) fun x => (hm x).symm).elim
        | true =>
          have hl := FrL_any ks
          rw [textT, textT, textL_map, textL_map]
          rcases (Fr_Q _ _).1 ((h _).1 ((Fr_Q _ _).2 (.inl hl))) with hl' | hl'
          · rw [align okt oku apu H (fun k hk => hk) (fun j hj => hj) hl hl']
          · have e := align okt oku apu H (fun k hk => hk) (fun j hj => List.mem_reverse.1 hj) hl hl'
            rw [List.map_reverse] at e
            have hne : ((ks.map (pr d)).headD (0, [])).1 ≠ ((ks.map (pr d)).getLastD (0, [])).1 := by
              have h2 := ht.two
              have hks : ks ≠ [] := by rintro rfl; simp at h2
              rw [headD_map (pr d) default (0, []) hks, getLastD_map (pr d) default (0, []) hks]
              show lst _ ≠ lst _
              intro e'
              match ks, h2, kn, lne', e' with
              | x :: y :: r, _, kn, lne', e' =>
                rcases List.eq_nil_or_concat (y :: r) with e0 | ⟨L, z, e0⟩
                · cases e0
                · rw [e0, List.concat_eq_append] at e' kn lne'
                  have e1 : (x :: (L ++ [z])).getLastD default = z := by rw [show x :: (L ++ [z]) = (x :: L) ++ [z] from rfl, List.getLastD_concat]
                  rw [e1] at e'
                  have := lne' x z List.mem_cons_self (by simp) e'
                  subst this
                  simp at kn
            have e3 : ordQ (ks.map (pr d)) = ordQ (js.map (pr d)) := by
              rw [← ordQ_rev hne, e, List.reverse_reverse]
            rw [e3]
end Go.Fw.Pq
