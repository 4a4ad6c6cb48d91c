/- Chapter 28: rows sorted by their heads. -/
import Derived.Test.YtjkbamfcoiikmaaGreatDoorPqS
import Derived.Test.YtjkbamfcoiikmaaGreatDoorPqO
import Derived.Test.YtjkbamfcoiikmaaGreatDoorSrtR
import Derived.StillTailTactics
namespace Go.Fw.K
open Go Go.RowKit Go.Proofs Go.Fw Go.Sort Go.Shelf Go.Fw.Pq
set_option maxHeartbeats 1000000 in
set_option maxRecDepth 20000 in
theorem headW {W : World} {b1 o1 b2 o2 n1 n2 c1 c2 : Nat} {x y : Int} (hx : 0 ≤ x ∧ x ≤ 1000000) (hy : 0 ≤ y ∧ y ≤ 1000000) (h1 : W.cell? ⟨b1, o1, none⟩ = some (.int .i64 x)) (h2 : W.cell? ⟨b2, o2, none⟩ = some (.int .i64 y)) :
    Calls Tryz.prog 84 #[.slice (some ⟨b1, o1, none⟩) (n1 + 1) c1, .slice (some ⟨b2, o2, none⟩) (n2 + 1) c2] W fun e w' => e = .returned (.int .i64 (x - y)) ∧ ∃ q os, w' = grow (W.drewN q) os := by
  go_enter Tryz.func84, Tryz.ntmps84
  go_wp2
  go_region
  go_wp2
  go_ret
  exact ⟨rfl, 1, #[], by rw [grow_empty]; rfl⟩
theorem sortR_con {ad : Option Addr} {cap : Nat} {ps : List Rw} (h0 : ps ≠ []) (hl : ps.length ≤ 1000) (hne : ∀ r ∈ ps, r.L ≠ []) (hb : ∀ r ∈ ps, 0 ≤ hdI r.L ∧ hdI r.L ≤ 1000000) :
    ConO Tryz.prog 83 [.slice ad ps.length cap, .func (.func 84) #[] #[]] [osl ad ps.length cap 32 1 (rws ps)] [vRws ps]
    (fun v rout φo => v = .tuple #[] ∧ φo = [] ∧ ∃ d : List Rw, d.Perm ps ∧ (∀ i j, i < j → j < d.length → hdI (d.getD i dR).L ≤ hdI (d.getD j dR).L) ∧ rout = [osl ad ps.length cap 32 1 (rws d)]) := by
  intro w0 p0 p1 w s
  have hL : 0 < ps.length := List.length_pos_iff.2 h0
  haveI : Inhabited {t // t ∈ ps} := ⟨⟨ps.getD 0 dR, rw_mem hL⟩⟩
  have hview : ∀ k ∈ ps, CellsAt (Xof w0 [osl ad ps.length cap 32 1 (rws ps)] true) w k.ad (i64s k.L) := s.views (true, vRws ps) List.mem_cons_self
  have he : ps.attach.map (fun x => x.1.v) = rws ps := List.attach_map_val (f := Rw.v)
  have eg : ∀ args w, (callFunc 84 args).run Tryz.prog w = .ok (.enter 84 args) w := enters_of Tryz.func84 (by kernel_rfl) rfl
  have s2 : St w0 w [osl ad ps.attach.length cap 32 1 (ps.attach.map fun x => x.1.v)] ([vRws ps].map (fun p => (true, p)) ++ [(false, p0), (true, p1)]) := by
    rw [he, List.length_attach]; exact s
  have hC : CmpStill Tryz.prog 84 (fun x : {t // t ∈ ps} => x.1.v) (fun x => hdI x.1.L) (osl ad ps.attach.length cap 32 1 (ps.attach.map fun x => x.1.v)) w := by
    intro W _ hW x y
    have hold : ∀ k ∈ ps, CellsAt (Xof w0 [osl ad ps.length cap 32 1 (rws ps)] true) W k.ad (i64s k.L) := fun k hk => (hview k hk).mono (fun j hj hX => hW j hj fun hkey => hX (.inl ⟨_, List.mem_cons_self, by rw [List.length_attach] at hkey; exact hkey⟩)) (fun _ _ h => h)
    have open_ : ∀ k ∈ ps, ∃ (b o n : Nat), k.v = .slice (some ⟨b, o, none⟩) (n + 1) k.cap ∧ W.cell? ⟨b, o, none⟩ = some (.int .i64 (hdI k.L)) := fun k hk => by
      obtain ⟨kad, kcap, kL⟩ := k
      match kL, hne _ hk, hold _ hk with
      | z :: l, _, hc =>
        obtain ⟨b, o, e, _, hcell⟩ := hc 0 (.int .i64 z) rfl
        cases e
        exact ⟨b, o, l.length, rfl, hcell⟩
    obtain ⟨b1, o1, n1, e1, g1⟩ := open_ x.1 x.2
    obtain ⟨b2, o2, n2, e2, g2⟩ := open_ y.1 y.2
    show Calls Tryz.prog 84 #[x.1.v, y.1.v] W _
    rw [e1, e2]
    exact headW (hb _ x.2) (hb _ y.2) g1 g2
  have := sort_still Tryz.laysSortR (fun x : {t // t ∈ ps} => x.1.v) (fun _ => rfl) (fun x => hdI x.1.L) _ eg (l := ps.attach) (by rw [List.length_attach]; omega) s2 hC
  have hc2 : Calls Tryz.prog 83 #[.slice ad ps.attach.length cap, .func (.func 84) #[] #[]] w _ := this
  rw [List.length_attach] at hc2
  refine hc2.mono ?_
  rintro e w' ⟨rfl, d, hp, hs, st⟩
  refine ⟨_, [osl ad ps.length cap 32 1 (rws (d.map (·.1)))], [], rfl, ⟨rfl, rfl, d.map (·.1), ?_, fun i j hij hj => ?_, rfl⟩, ?_⟩
  · have := hp.map (·.1)
    rwa [List.attach_map_subtype_val] at this
  · rw [List.length_map] at hj
    have h1 := hs i j hij hj
    have e : ∀ k, k < d.length → (d.map (·.1)).getD k dR = (d.getD k default).1 := fun k hk => by
      rw [List.getD_eq_getElem?_getD, List.getElem?_map, List.getD_eq_getElem?_getD, List.getElem?_eq_getElem hk]; rfl
    rw [e i (by omega), e j hj]
    exact h1
  · rw [show rws (d.map (·.1)) = d.map (fun x => x.1.v) from List.map_map]
    exact st.weaken fun p hp => by
      rcases List.mem_append.1 hp with hp | hp
      · cases hp
      · exact List.mem_append_right _ hp
end Go.Fw.K
