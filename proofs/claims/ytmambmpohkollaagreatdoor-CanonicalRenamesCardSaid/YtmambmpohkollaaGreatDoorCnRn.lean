/- Chapter 16: graphs with other numbers of their dies: the same code. Plain. -/
import Derived.Test.YtmambmpohkollaaGreatDoorCnZ
import Derived.Test.YtmambmpohkollaaGreatDoorFwMx
import Derived.Test.YtmambmpohkollaaGreatDoorProg
namespace Go.Fw.Cn
open Go Go.RowKit Go.Fw
/-- What stands in the map after i numbers. -/
def ntM (L T : List Int) : Nat → List (Int × Int)
  | 0 => []
  | i + 1 => setM (L.getD i 0) (T.getD i 0) (ntM L T i)
theorem ntM_nodup (L T : List Int) : ∀ i, ((ntM L T i).map (·.1)).Nodup
  | 0 => List.nodup_nil
  | i + 1 => setM_nodup (ntM_nodup L T i)
theorem ntM_get {L T : List Int} (hL : ascI L) : ∀ {i j : Nat}, i ≤ L.length → j < i → getM 0 (L.getD j 0) (ntM L T i) = T.getD j 0
  | 0, _, _, h => absurd h (Nat.not_lt_zero _)
  | i + 1, j, hi, h => by
    rw [ntM, getM_setM]
    by_cases e : i = j
    · subst e; rw [if_pos rfl]
    · have h1 := hL j i (by omega) (by omega)
      rw [if_neg (by omega), ntM_get hL (i := i) (by omega) (by omega)]
/-- The new number of a die. -/
def rnF (L T : List Int) (x : Int) : Int := T.getD (bsI x L) 0
theorem ntM_rn {L T : List Int} (hL : ascI L) {x : Int} (hx : x ∈ L) : getM 0 x (ntM L T L.length) = rnF L T x := by
  obtain ⟨h1, h2⟩ := bsI_get hL hx
  have h := ntM_get (T := T) hL (Nat.le_refl _) h1
  rw [h2] at h
  exact h
def rnK (O R TO TR : List Int) (K : List Lk) : List Lk := K.map fun k => ⟨k.id, rnF O TO k.o, rnF R TR k.r⟩
theorem rnK_len (O R TO TR : List Int) (K : List Lk) : (rnK O R TO TR K).length = K.length := List.length_map _
theorem rnK_get {O R TO TR : List Int} {K : List Lk} {i : Nat} (h : i < K.length) : (rnK O R TO TR K).getD i dK = ⟨(K.getD i dK).id, rnF O TO (K.getD i dK).o, rnF R TR (K.getD i dK).r⟩ := by
  unfold rnK
  rw [List.getD_eq_getElem?_getD, List.getElem?_map, List.getElem?_eq_getElem h, List.getD_eq_getElem?_getD, List.getElem?_eq_getElem h]; rfl
theorem rnK_take {O R TO TR : List Int} {K : List Lk} {i : Nat} (h : i < K.length) : (rnK O R TO TR K).take (i + 1) = (rnK O R TO TR K).take i ++ [⟨(K.getD i dK).id, rnF O TO (K.getD i dK).o, rnF R TR (K.getD i dK).r⟩] := by
  rw [takeK_succ (by rw [rnK_len]; exact h), rnK_get h]
/-- So many different numbers that dies may have. -/
def nmT (T : List Int) (n : Nat) : Prop := (nmL (srtI T) ∧ (srtI T).length ≤ 32) ∧ T.length = n
instance (T : List Int) (n : Nat) : Decidable (nmT T n) := by unfold nmT; infer_instance
theorem nmT_nodup {T : List Int} {n : Nat} (h : nmT T n) : T.Nodup := (List.Perm.nodup_iff (List.mergeSort_perm _ _)).1 (asc_nodup h.1.1.asc)
/-- The places of the new numbers among all of them. -/
def rnP (T : List Int) : List Nat := T.map fun t => bsI t (srtI T)
theorem rnP_get {T : List Int} {i : Nat} (h : i < T.length) : (rnP T).getD i 0 = bsI (T.getD i 0) (srtI T) := by
  unfold rnP
  rw [List.getD_eq_getElem?_getD, List.getElem?_map, List.getElem?_eq_getElem h, getI_eq h]; rfl
theorem rnP_pre {T : List Int} {n : Nat} (h : nmT T n) : Pre n n (rnP T) := by
  have ha := h.1.1.asc
  have hm : ∀ t ∈ T, bsI t (srtI T) < (srtI T).length ∧ (srtI T).getD (bsI t (srtI T)) 0 = t := fun t ht => bsI_get ha (srtI_mem.2 ht)
  refine ⟨(List.length_map _).trans h.2, ?_, fun v hv => ?_⟩
  · refine List.pairwise_map.2 (List.Pairwise.imp_of_mem ?_ (nmT_nodup h))
    intro a b ha hb hab e
    have h1 := (hm a ha).2
    rw [e, (hm b hb).2] at h1
    exact hab h1.symm
  · obtain ⟨t, ht, rfl⟩ := List.mem_map.1 hv
    have := (hm t ht).1
    rw [srtI_len, h.2] at this
    exact this
theorem rn_inj {L T : List Int} {n : Nat} (hL : ascI L) (hl : L.length = n) (h : nmT T n) {x : Int} (hx : x ∈ L) {i : Nat} (hi : i < n) : rnF L T x = T.getD i 0 ↔ x = L.getD i 0 := by
  obtain ⟨h1, h2⟩ := bsI_get hL hx
  unfold rnF
  constructor
  · intro e
    have hb : bsI x L < T.length := by rw [h.2]; omega
    have hi' : i < T.length := by rw [h.2]; exact hi
    rw [getI_eq hb, getI_eq hi'] at e
    have := (List.getElem_inj (nmT_nodup h)).1 e
    rw [← this, h2]
  · intro e
    subst e
    rw [bsI_inj hL (by omega)]
section
variable {O R TO TR : List Int} {K : List Lk}
theorem cnt_rn (hv : valG O R K) (h1 : nmT TO O.length) (h2 : nmT TR R.length) {i k : Nat} (hi : i < O.length) (hk : k < R.length) : cntK (rnK O R TO TR K) (TO.getD i 0) (TR.getD k 0) = cntK K (O.getD i 0) (R.getD k 0) := by
  unfold cntK rnK
  rw [List.filter_map, List.length_map]
  congr 1
  refine List.filter_congr fun x hx => decide_eq_decide.2 ?_
  obtain ⟨j, hj, rfl⟩ := mem_getK hx
  have hlk := hv.2.2.2.1 j hj
  show rnF O TO _ = _ ∧ rnF R TR _ = _ ↔ _
  rw [rn_inj hv.1.1.asc rfl h1 hlk.2.2.2.1 hi, rn_inj hv.2.1.1.asc rfl h2 hlk.2.2.2.2 hk]
theorem mem_rn (hL : ascI O) (h1 : TO.length = O.length) {M : List Int} (hM : ∀ x ∈ O, x ∈ M) (hM2 : ∀ x ∈ M, x ∈ O) {t : Int} : t ∈ M.map (rnF O TO) ↔ t ∈ TO := by
  rw [List.mem_map]
  constructor
  · rintro ⟨x, hx, rfl⟩
    obtain ⟨h2, _⟩ := bsI_get hL (hM2 x hx)
    exact getI_mem (by rw [h1]; exact h2)
  · intro h
    obtain ⟨j, hj, rfl⟩ := mem_getI h
    refine ⟨O.getD j 0, hM _ (getI_mem (by omega)), ?_⟩
    unfold rnF
    rw [bsI_inj hL (by omega)]
theorem srt_asc {T : List Int} {n : Nat} (h : nmT T n) : ascI (srtI T) := h.1.1.asc
theorem rn_o (hv : valG O R K) (h1 : nmT TO O.length) : distI ((rnK O R TO TR K).map Lk.o) = srtI TO := by
  refine asc_ext (distI_asc _) h1.1.1.asc fun x => ?_
  rw [distI_mem, srtI_mem]
  have h := mem_rn (O := O) (TO := TO) hv.1.1.asc h1.2 (M := K.map Lk.o) hv.2.2.2.2.1 (t := x) fun y hy => by rw [← dist_o hv, distI_mem]; exact hy
  rw [← h]
  unfold rnK
  rw [List.map_map, List.map_map]; rfl
theorem rn_r (hv : valG O R K) (h1 : nmT TR R.length) : distI ((rnK O R TO TR K).map Lk.r) = srtI TR := by
  refine asc_ext (distI_asc _) h1.1.1.asc fun x => ?_
  rw [distI_mem, srtI_mem]
  have h := mem_rn (O := R) (TO := TR) hv.2.1.1.asc h1.2 (M := K.map Lk.r) hv.2.2.2.2.2 (t := x) fun y hy => by rw [← dist_r hv, distI_mem]; exact hy
  rw [← h]
  unfold rnK
  rw [List.map_map, List.map_map]; rfl
theorem rn_val (hv : valG O R K) (h1 : nmT TO O.length) (h2 : nmT TR R.length) : valG (srtI TO) (srtI TR) (rnK O R TO TR K) := by
  refine ⟨h1.1, h2.1, by rw [rnK_len]; exact hv.2.2.1, fun i hi => ?_, fun x hx => ?_, fun x hx => ?_⟩
  · rw [rnK_len] at hi
    have h := hv.2.2.2.1 i hi
    unfold lkA at h ⊢
    rw [rnK_get hi]
    refine ⟨h.1, h.2.1, ?_, ?_, ?_⟩
    · rcases h.2.2.1 with e | e
      · exact .inl e
      · exact .inr (by rw [rnK_get (by omega)]; exact e)
    · refine srtI_mem.2 (getI_mem ?_)
      rw [h1.2]
      exact (bsI_get hv.1.1.asc h.2.2.2.1).1
    · refine srtI_mem.2 (getI_mem ?_)
      rw [h2.2]
      exact (bsI_get hv.2.1.1.asc h.2.2.2.2).1
  · rw [← rn_o (TR := TR) hv h1, distI_mem] at hx; exact hx
  · rw [← rn_r (TO := TO) hv h2, distI_mem] at hx; exact hx
theorem rn_len {T : List Int} {n : Nat} (h : nmT T n) : (srtI T).length = n := by rw [srtI_len, h.2]
theorem rn_err (hv : valG O R K) (h1 : nmT TO O.length) (h2 : nmT TR R.length) : errG (srtI TO) (srtI TR) (rnK O R TO TR K) = errG O R K := by
  unfold errG
  rw [if_pos hv, if_pos (rn_val hv h1 h2), rn_len h1, rn_len h2]
theorem rn_mp (hv : valG O R K) (h1 : nmT TO O.length) (h2 : nmT TR R.length) : mp (matG O R K) (matG (srtI TO) (srtI TR) (rnK O R TO TR K)) R.length (rnP TO) (rnP TR) := by
  refine (mp_iff (by rw [matG_len]; exact rnP_pre h1) (rnP_pre h2)).2 fun i hi k hk => ?_
  rw [matG_len] at hi
  have hi' : i < TO.length := by rw [h1.2]; exact hi
  have hk' : k < TR.length := by rw [h2.2]; exact hk
  obtain ⟨a1, a2⟩ := bsI_get (srt_asc h1) (srtI_mem.2 (getI_mem hi'))
  obtain ⟨b1, b2⟩ := bsI_get (srt_asc h2) (srtI_mem.2 (getI_mem hk'))
  rw [rnP_get hi', rnP_get hk']
  unfold en
  rw [matG_get a1 b1, matG_get hi hk, a2, b2, cnt_rn hv h1 h2 hi hk]
theorem rn_code {B B2 : List Int} (hv : valG O R K) (h1 : nmT TO O.length) (h2 : nmT TR R.length) (hB : IsCode (matG O R K) R.length B) (hB2 : IsCode (matG (srtI TO) (srtI TR) (rnK O R TO TR K)) (srtI TR).length B2) : B = B2 := by
  rw [rn_len h2] at hB2
  exact code_same (by rw [matG_len, matG_len, rn_len h1]) (by rw [matG_len]; exact rnP_pre h1) (rnP_pre h2) (rn_mp hv h1 h2) hB hB2
theorem rn_codes {B B2 : List Int} (hv : valG O R K) (h1 : nmT TO O.length) (h2 : nmT TR R.length) (h : errG O R K = 0 → IsCode (matG O R K) R.length B) (h0 : errG O R K ≠ 0 → B = [])
    (h3 : errG (srtI TO) (srtI TR) (rnK O R TO TR K) = 0 → IsCode (matG (srtI TO) (srtI TR) (rnK O R TO TR K)) (srtI TR).length B2) (h4 : errG (srtI TO) (srtI TR) (rnK O R TO TR K) ≠ 0 → B2 = []) : B2 = B := by
  rw [rn_err hv h1 h2] at h3 h4
  by_cases he : errG O R K = 0
  · exact (rn_code hv h1 h2 (h he) (h3 he)).symm
  · rw [h0 he, h4 he]
theorem rn_names {T T2 : List UInt8} (hv : valG O R K) (h1 : nmT TO O.length) (h2 : nmT TR R.length) (h : errG O R K = 0 → ∃ B, IsCode (matG O R K) R.length B ∧ T = nameT O.length R.length (B.drop 2)) (h0 : errG O R K ≠ 0 → T = [])
    (h3 : errG (srtI TO) (srtI TR) (rnK O R TO TR K) = 0 → ∃ B, IsCode (matG (srtI TO) (srtI TR) (rnK O R TO TR K)) (srtI TR).length B ∧ T2 = nameT (srtI TO).length (srtI TR).length (B.drop 2)) (h4 : errG (srtI TO) (srtI TR) (rnK O R TO TR K) ≠ 0 → T2 = []) : T2 = T := by
  rw [rn_err hv h1 h2] at h3 h4
  by_cases he : errG O R K = 0
  · obtain ⟨B, a, rfl⟩ := h he
    obtain ⟨B2, b, rfl⟩ := h3 he
    rw [rn_code hv h1 h2 a b, rn_len h1, rn_len h2]
  · rw [h0 he, h4 he]
theorem rn_alike {o : Option (List Nat × List Nat)} {e : Int} (hv : valG O R K) (h1 : nmT TO O.length) (h2 : nmT TR R.length) (h : MapS O R K (srtI TO) (srtI TR) (rnK O R TO TR K) o e) : e = 0 ↔ errG O R K = 0 := by
  constructor
  · intro he
    exact Classical.byContradiction fun hn => alike_no (.inl hn) h he
  · intro he
    refine (alike_map he ((rn_err hv h1 h2).trans he) h).2 ⟨(rn_len h1).symm, (rn_len h2).symm, rnP TO, rnP TR, by rw [matG_len]; exact rnP_pre h1, rnP_pre h2, rn_mp hv h1 h2⟩
theorem four (a b : Prop) : (a ∧ b) ∨ (a ∧ ¬ b) ∨ (¬ a ∧ b) ∨ (¬ a ∧ ¬ b) := by
  by_cases h1 : a <;> by_cases h2 : b <;> simp [h1, h2]
/-- What Renamed answers. -/
def RenS (O R : List Int) (K : List Lk) (TO TR : List Int) (O1 R1 : List Int) (K1 : List Lk) (e : Int) : Prop := (valG O R K ∧ nmT TO O.length ∧ nmT TR R.length ∧ srtI TO = O1 ∧ srtI TR = R1 ∧ rnK O R TO TR K = K1 ∧ e = 0) ∨ (e ≠ 0 ∧ K1 = [])
theorem RenS.ok {O1 R1 : List Int} {K1 : List Lk} {e : Int} (h : RenS O R K TO TR O1 R1 K1 e) (he : e = 0) : valG O R K ∧ nmT TO O.length ∧ nmT TR R.length ∧ srtI TO = O1 ∧ srtI TR = R1 ∧ rnK O R TO TR K = K1 := by
  rcases h with ⟨a, b, c, d, f, g, _⟩ | ⟨a, _⟩
  · exact ⟨a, b, c, d, f, g⟩
  · exact absurd he a
theorem RenS.no {O1 R1 : List Int} {K1 : List Lk} {e : Int} (h : RenS O R K TO TR O1 R1 K1 e) (he : e ≠ 0) : K1 = [] := by
  rcases h with ⟨_, _, _, _, _, _, g⟩ | ⟨_, a⟩
  · exact absurd g he
  · exact a
end
end Go.Fw.Cn
namespace Go.Fw.K
open Go Go.RowKit Go.Proofs Go.Fw
theorem keyInt : KeyT Tryz.prog 3 iv := KeyT.int Tryz.underlying3
theorem zvInt : zvOf Tryz.prog 3 = some (iv 0) := by kernel_rfl
end Go.Fw.K
