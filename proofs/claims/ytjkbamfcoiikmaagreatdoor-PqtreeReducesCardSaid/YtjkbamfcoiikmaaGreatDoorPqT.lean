/- Chapter 28: nodes sorted by their least leaves. -/
import Derived.Test.YtjkbamfcoiikmaaGreatDoorPqS
import Derived.Test.YtjkbamfcoiikmaaGreatDoorPqL
import Derived.Test.YtjkbamfcoiikmaaGreatDoorSrtN
namespace Go.Fw.K
open Go Go.RowKit Go.Proofs Go.Fw Go.Sort Go.Shelf Go.Fw.Pq
theorem sortN_con {ad : Option Addr} {cap : Nat} {ks : List AT} (h0 : ks ≠ []) (hl : ks.length ≤ 1000) (hf : ∀ k ∈ ks, Fit k) (hb : ∀ k ∈ ks, lst (er k) ≤ 1000000) :
    ConO Tryz.prog 74 [.slice ad ks.length cap, .func (.func 75) #[] #[]] [osl ad ks.length cap 58 1 (ptrs ks)] [vAs ks]
    (fun v rout φo => v = .tuple #[] ∧ φo = [] ∧ ∃ d : List AT, d.Perm ks ∧ (∀ i j, i < j → j < d.length → lst (er (d.getD i default)) ≤ lst (er (d.getD j default))) ∧ rout = [osl ad ks.length cap 58 1 (ptrs d)]) := by
  intro w0 p0 p1 w s
  have hL : 0 < ks.length := List.length_pos_iff.2 h0
  haveI : Inhabited {t // t ∈ ks} := ⟨⟨ks.getD 0 default, at_mem hL⟩⟩
  have hview : ∀ k ∈ ks, AT.hold (Xof w0 [osl ad ks.length cap 58 1 (ptrs ks)] true) w k := s.views (true, vAs ks) List.mem_cons_self
  have he : ks.attach.map (fun x => ptr x.1) = ptrs ks := List.attach_map_val (f := ptr)
  have eg : ∀ args w, (callFunc 75 args).run Tryz.prog w = .ok (.enter 75 args) w := enters_of Tryz.func75 (by kernel_rfl) rfl
  have s2 : St w0 w [osl ad ks.attach.length cap 58 1 (ks.attach.map fun x => ptr x.1)] ([vAs ks].map (fun p => (true, p)) ++ [(false, p0), (true, p1)]) := by
    rw [he, List.length_attach]; exact s
  have hC : CmpStill Tryz.prog 75 (fun x : {t // t ∈ ks} => ptr x.1) (fun x => (lst (er x.1) : Int)) (osl ad ks.attach.length cap 58 1 (ks.attach.map fun x => ptr x.1)) w := by
    intro W _ hW x y
    have hold : ∀ k ∈ ks, AT.hold (Xof w0 [osl ad ks.length cap 58 1 (ptrs ks)] true) W k := fun k hk => AT.hold_mono (fun j hj hX => hW j hj fun hkey => hX (.inl ⟨_, List.mem_cons_self, by rw [List.length_attach] at hkey; exact hkey⟩)) (fun _ _ h => h) k (hview k hk)
    exact (lessW (hb _ x.2) (hb _ y.2) (leastW _ (hf _ x.2) (hold _ x.2)) (leastW _ (hf _ y.2) (hold _ y.2))).mono fun _ _ ⟨h1, h2⟩ => ⟨h1, 0, #[], by rw [grow_empty]; exact h2⟩
  have := sort_still Tryz.laysSortN (fun x : {t // t ∈ ks} => ptr x.1) (fun _ => rfl) (fun x => (lst (er x.1) : Int)) _ eg (l := ks.attach) (by rw [List.length_attach]; omega) s2 hC
  have hc2 : Calls Tryz.prog 74 #[.slice ad ks.attach.length cap, .func (.func 75) #[] #[]] w _ := this
  rw [List.length_attach] at hc2
  refine hc2.mono ?_
  rintro e w' ⟨rfl, d, hp, hs, st⟩
  refine ⟨_, [osl ad ks.length cap 58 1 (ptrs (d.map (·.1)))], [], rfl, ⟨rfl, rfl, d.map (·.1), ?_, fun i j hij hj => ?_, rfl⟩, ?_⟩
  · have := hp.map (·.1)
    rwa [List.attach_map_subtype_val] at this
  · rw [List.length_map] at hj
    have h1 := hs i j hij hj
    have e : ∀ k, k < d.length → (d.map (·.1)).getD k default = (d.getD k default).1 := fun k hk => by
      rw [List.getD_eq_getElem?_getD, List.getElem?_map, List.getD_eq_getElem?_getD, List.getElem?_eq_getElem hk]; rfl
    rw [e i (by omega), e j hj]
    exact Int.ofNat_le.1 h1
  · rw [show ptrs (d.map (·.1)) = d.map (fun x => ptr x.1) from List.map_map]
    exact st.weaken fun p hp => by
      rcases List.mem_append.1 hp with hp | hp
      · cases hp
      · exact List.mem_append_right _ hp
end Go.Fw.K
