import Derived.Test.YtaccokghjpcijaaGreatDoorMH
import Derived.Deep.QuietTactic
import Derived.BigQuiet
import Derived.BigRegion
import Derived.RegionTactic
import Derived.Deep.RegionWith
import Derived.Test.YtaccokghjpcijaaGreatDoorMS
set_option linter.unusedVariables false
set_option linter.unusedSimpArgs false
namespace Go.Proofs.YtaccokghjpcijaaGreatDoor
open Go Go.RowKit Pp

/-! ### two trees that are alike but for the order of their entries -/
structure Sim (g g' : St) : Prop where
  next : g'.next = g.next
  bytes : ∀ i, (g'.node i).bytes = (g.node i).bytes
  links : ∀ i, (g'.node i).links = (g.node i).links
  dirs : ∀ i, isDir g' i = isDir g i
  perm : ∀ i, (entsOf g' i).Perm (entsOf g i)
theorem Sim.refl (g : St) : Sim g g := ⟨rfl, fun _ => rfl, fun _ => rfl, fun _ => rfl, fun _ => List.Perm.refl _⟩
theorem look_perm {l l' : List (Str × Nat)} (h : l'.Perm l) (hn : (l.map (·.1)).Nodup) (n : Str) : look l' n = look l n := by
  have hn' : (l'.map (·.1)).Nodup := (h.map _).nodup_iff.2 hn
  cases e : look l n with
  | some x => exact (look_iff hn').2 (h.mem_iff.2 ((look_iff hn).1 e))
  | none =>
    rw [look_none_iff] at e ⊢
    exact fun hm => e ((h.map _).mem_iff.1 hm)
section
variable {g g' : St}
theorem Sim.look_s (s : Sim g g') (h : Inv g) (i : Nat) (n : Str) : look (entsOf g' i) n = look (entsOf g i) n := look_perm (s.perm i) (h.nodup i) n
theorem Sim.walk_s (s : Sim g g') (h : Inv g) : ∀ {ns : List Str} {i : Nat}, walk g' i ns = walk g i ns
  | [], i => rfl
  | n :: ns, i => by
    rw [walk_cons, walk_cons, s.dirs, s.look_s h]
    cases isDir g i with
    | false => rfl
    | true =>
      rw [if_pos rfl, if_pos rfl]
      cases look (entsOf g i) n with
      | none => rfl
      | some j => exact s.walk_s h
theorem Sim.go_s (s : Sim g g') (h : Inv g) : ∀ {ns : List Str} {i : Nat}, go g' i ns = go g i ns
  | [], i => rfl
  | n :: ns, i => by
    rw [go_cons, go_cons, s.look_s h]
    congr 1
    funext j
    exact s.go_s h
theorem Sim.leads_s (s : Sim g g') (h : Inv g) (p : Str) : leads g' p = leads g p := by
  unfold leads
  cases split p with
  | none => rfl
  | some ns => exact s.walk_s h
theorem Sim.kind_s (s : Sim g g') (h : Inv g) (p : Str) (d : Bool) : kind g' p d = kind g p d := by
  unfold kind
  rw [s.leads_s h]
  cases leads g p with
  | error e => rfl
  | ok x => simp only [s.dirs]
theorem Sim.free_s (s : Sim g g') (h : Inv g) (p : Str) : free g' p = free g p := by
  unfold free
  rw [s.kind_s h]
  cases kind g (parentV p).1 true with
  | error e => rfl
  | ok x => simp only [s.look_s h]
theorem Sim.addLink_s (s : Sim g g') (x : Nat) (k : Int) : Sim (addLink g x k) (addLink g' x k) where
  next := s.next
  bytes i := by rw [bytes_addLink, bytes_addLink]; exact s.bytes i
  links i := by rw [links_addLink, links_addLink, s.links, s.links]
  dirs i := by rw [isDir_addLink, isDir_addLink]; exact s.dirs i
  perm i := by rw [ents_addLink, ents_addLink]; exact s.perm i
theorem Sim.addEnt_s (s : Sim g g') {d : Nat} (hd : isDir g d = true) (n : Str) (x : Nat) : Sim (addEnt g d n x) (addEnt g' d n x) where
  next := s.next
  bytes i := by rw [bytes_addEnt, bytes_addEnt]; exact s.bytes i
  links i := by rw [links_addEnt, links_addEnt]; exact s.links i
  dirs i := by rw [isDir_addEnt hd, isDir_addEnt (by rw [s.dirs]; exact hd)]; exact s.dirs i
  perm i := by
    rw [ents_addEnt, ents_addEnt]
    by_cases hi : i = d
    · rw [if_pos hi, if_pos hi]; exact (s.perm d).append_right _
    · rw [if_neg hi, if_neg hi]; exact s.perm i
theorem Sim.delEnt_s (s : Sim g g') {d : Nat} (hd : isDir g d = true) (n : Str) : Sim (delEnt g d n) (delEnt g' d n) where
  next := s.next
  bytes i := by rw [bytes_delEnt, bytes_delEnt]; exact s.bytes i
  links i := by rw [links_delEnt, links_delEnt]; exact s.links i
  dirs i := by rw [isDir_delEnt hd, isDir_delEnt (by rw [s.dirs]; exact hd)]; exact s.dirs i
  perm i := by
    rw [ents_delEnt, ents_delEnt]
    by_cases hi : i = d
    · rw [if_pos hi, if_pos hi]; exact (s.perm d).filter _
    · rw [if_neg hi, if_neg hi]; exact s.perm i
theorem Sim.fresh_s (s : Sim g g') (n : Node) : Sim (fresh g n) (fresh g' n) where
  next := congrArg (· + 1) s.next
  bytes i := by
    unfold fresh
    rw [s.next]
    by_cases hi : i = g.next
    · subst hi; simp only [upd_at]
    · simp only [upd_ne _ _ hi]; exact s.bytes i
  links i := by
    unfold fresh
    rw [s.next]
    by_cases hi : i = g.next
    · subst hi; simp only [upd_at]
    · simp only [upd_ne _ _ hi]; exact s.links i
  dirs i := by
    unfold fresh isDir
    rw [s.next]
    by_cases hi : i = g.next
    · subst hi; simp only [upd_at]
    · simp only [upd_ne _ _ hi]; exact s.dirs i
  perm i := by
    unfold fresh entsOf
    rw [s.next]
    by_cases hi : i = g.next
    · subst hi; simp only [upd_at]; exact List.Perm.refl _
    · simp only [upd_ne _ _ hi]; exact s.perm i
theorem Sim.setB_s (s : Sim g g') (x : Nat) (t : Str) : Sim (setB g x t) (setB g' x t) where
  next := s.next
  bytes i := by rw [setB_bytes, setB_bytes, s.bytes]
  links i := by rw [setB_links, setB_links]; exact s.links i
  dirs i := by rw [setB_isDir, setB_isDir]; exact s.dirs i
  perm i := by rw [setB_entsOf, setB_entsOf]; exact s.perm i
theorem Sim.lay_s (s : Sim g g') (h : Inv g) (p : Str) (x : Nat) : Sim (lay g p x).1 (lay g' p x).1 ∧ (lay g' p x).2 = (lay g p x).2 := by
  unfold lay
  rw [s.free_s h]
  cases hf : free g p with
  | error e => exact ⟨s, rfl⟩
  | ok q =>
    obtain ⟨ns, _, _, hd, _⟩ := free_spec (d := q.1) (n := q.2) hf
    exact ⟨(s.addEnt_s hd _ _).addLink_s _ _, rfl⟩
theorem Sim.cut_s (s : Sim g g') (h : Inv g) {p : Str} {x : Nat} (hl : leads g p = .ok x) (hp : p ≠ [47]) : Sim (cut g p) (cut g' p) := by
  obtain ⟨q, n, ns, d, hq, _, hlp, _, hd, hlk, _⟩ := leads_last h hl hp
  rw [cut_eq hq hlp hlk, cut_eq hq (by rw [s.leads_s h]; exact hlp) (by rw [s.look_s h]; exact hlk)]
  exact (s.addLink_s _ _).delEnt_s (by rw [isDir_addLink]; exact hd) _
theorem sortS_perm {l l' : List Str} (h : l'.Perm l) : sortS l' = sortS l := by
  have tr : ∀ a b c : Str, decide (a ≤ b) = true → decide (b ≤ c) = true → decide (a ≤ c) = true := fun a b c h1 h2 => decide_eq_true (List.le_trans (of_decide_eq_true h1) (of_decide_eq_true h2))
  have tot : ∀ a b : Str, (decide (a ≤ b) || decide (b ≤ a)) = true := fun a b => by
    rcases List.le_total a b with h | h
    · simp [h]
    · simp [h]
  unfold sortS
  refine List.Perm.eq_of_pairwise (le := fun a b => decide (a ≤ b) = true) (fun a b _ _ h1 h2 => ?_) (List.pairwise_mergeSort tr tot l') (List.pairwise_mergeSort tr tot l) (((List.mergeSort_perm l' _).trans h).trans (List.mergeSort_perm l _).symm)
  exact List.le_antisymm (of_decide_eq_true h1) (of_decide_eq_true h2)
/-- What Create, Mkdir do. -/
theorem Sim.made_s (s : Sim g g') (h : Inv g) (p : Str) (n : Node) (hn : n.ents = none ∨ n.ents = some []) (hb : n.bytes.length ≤ 16384) : Sim (made g p n).1 (made g' p n).1 ∧ (made g' p n).2 = (made g p n).2 := by
  have hl := (s.fresh_s n).lay_s (h.fresh hn hb) p g.next
  unfold made
  rw [s.next]
  obtain ⟨h1, h2⟩ := hl
  generalize lay (fresh g n) p g.next = a at *
  generalize lay (fresh g' n) p g.next = b at *
  obtain ⟨a1, a2⟩ := a
  obtain ⟨b1, b2⟩ := b
  simp only at h1 h2
  subst h2
  simp only
  by_cases he : b2 = 0
  · rw [if_pos he, if_pos he]; exact ⟨h1, trivial⟩
  · rw [if_neg he, if_neg he]; exact ⟨s, trivial⟩
theorem Sim.rename_s (s : Sim g g') (h : Inv g) (o : Ask) : Sim (renameS g o).1 (renameS g' o).1 ∧ (renameS g' o).2 = (renameS g o).2 := by
  unfold renameS
  by_cases hr : o.path = [47]
  · rw [if_pos hr, if_pos hr]; exact ⟨s, rfl⟩
  rw [if_neg hr, if_neg hr, s.leads_s h]
  cases hl : leads g o.path with
  | error e => exact ⟨s, rfl⟩
  | ok x =>
    simp only
    by_cases hw : within o.path o.dst = true
    · rw [if_pos hw, if_pos hw]; exact ⟨s, rfl⟩
    rw [if_neg hw, if_neg hw]
    obtain ⟨h1, h2⟩ := s.lay_s h o.dst x
    rw [show lay g o.dst x = ((lay g o.dst x).1, (lay g o.dst x).2) from rfl, show lay g' o.dst x = ((lay g' o.dst x).1, (lay g' o.dst x).2) from rfl]
    simp only
    rw [h2]
    by_cases he : (lay g o.dst x).2 = 0
    · obtain ⟨d2, n2, hf, hd2, hg⟩ := lay_ok he
      obtain ⟨d2', n2', hf', hd2', hg'⟩ := lay_ok (h2.trans he)
      rw [s.free_s h, hf] at hf'
      cases hf'
      rw [if_pos he, if_pos he, hg, hg']
      obtain ⟨p, n1, k, d1, hpv, hs1, hlp, hp1, hd1, hl1, hx0⟩ := leads_last h hl hr
      have key : ∀ γ : St, isDir γ d2 = true → leads γ p = .ok d1 → look (entsOf γ d1) n1 = some x → cut (addLink (addEnt γ d2 n2 x) x 1) o.path = delEnt (addLink (addLink (addEnt γ d2 n2 x) x 1) x (-1)) d1 n1 := fun γ hd hq hk => by
        refine cut_eq hpv ?_ (look_lay hd hk)
        unfold leads at hq ⊢
        cases hsp : split p with
        | none => rw [hsp] at hq; cases hq
        | some q => rw [hsp] at hq; exact walk_lay hd q 0 hq
      rw [key g hd2 hlp hl1, key g' hd2' (by rw [s.leads_s h]; exact hlp) (by rw [s.look_s h]; exact hl1)]
      exact ⟨(((s.addEnt_s hd2 _ _).addLink_s _ _).addLink_s _ _).delEnt_s (by rw [isDir_addLink, isDir_addLink, isDir_addEnt hd2]; exact hd1) _, rfl⟩
    · rw [if_neg he, if_neg he]
      exact ⟨h1, rfl⟩
theorem Sim.inv_s (s : Sim g g') (h : Inv g) : Inv g' where
  dir0 := by rw [s.dirs]; exact h.dir0
  pos := by rw [s.next]; exact h.pos
  ent i p hp := by rw [s.next]; exact h.ent i p ((s.perm i).mem_iff.1 hp)
  nodup i := ((s.perm i).map _).nodup_iff.2 (h.nodup i)
  one i j p q hp hq e hd := by rw [s.dirs] at hd; exact h.one i j p q ((s.perm i).mem_iff.1 hp) ((s.perm j).mem_iff.1 hq) e hd
  beyond i hi := by
    rw [s.next] at hi
    have hb := h.beyond i hi
    have h1 := s.bytes i
    have h2 := s.links i
    have h3 := s.dirs i
    unfold isDir at h3
    rw [hb] at h1 h2 h3
    generalize g'.node i = x at *
    obtain ⟨e, b, k⟩ := x
    simp only at h1 h2 h3
    subst h1 h2
    cases e with
    | none => rfl
    | some l => cases h3
  small i := by rw [s.bytes]; exact h.small i
set_option maxHeartbeats 2000000 in
theorem Sim.step_s (s : Sim g g') (h : Inv g) (o : Ask) : Sim (step g o).1 (step g' o).1 ∧ (step g' o).2 = (step g o).2 := by
  unfold step
  split
  · exact s.made_s h _ _ (.inl rfl) (by simp)
  split
  · exact s.made_s h _ _ (.inr rfl) (by simp)
  split
  · unfold linkS
    rw [s.kind_s h]
    cases hk : kind g o.path false with
    | error e => exact ⟨s, rfl⟩
    | ok x =>
      obtain ⟨h1, h2⟩ := s.lay_s h o.dst x
      exact ⟨h1, congrArg told h2⟩
  split
  · unfold unlinkS
    rw [s.kind_s h]
    cases hk : kind g o.path false with
    | error e => exact ⟨s, rfl⟩
    | ok x => exact ⟨s.cut_s h (kind_ok hk).1 (kind_root h hk), rfl⟩
  split
  · unfold rmdirS
    by_cases hr : o.path = [47]
    · rw [if_pos hr, if_pos hr]; exact ⟨s, rfl⟩
    · rw [if_neg hr, if_neg hr, s.kind_s h]
      cases hk : kind g o.path true with
      | error e => exact ⟨s, rfl⟩
      | ok x =>
        simp only
        rw [(s.perm x).length_eq]
        by_cases he : 0 < (entsOf g x).length
        · rw [if_pos he, if_pos he]; exact ⟨s, rfl⟩
        · rw [if_neg he, if_neg he]; exact ⟨s.cut_s h (kind_ok hk).1 hr, rfl⟩
  split
  · exact s.rename_s h o
  split
  · unfold readS
    rw [s.kind_s h]
    cases hk : kind g o.path false with
    | error e => exact ⟨s, rfl⟩
    | ok x =>
      simp only
      rw [s.bytes]
      split
      · exact ⟨s, rfl⟩
      · exact ⟨s, rfl⟩
  split
  · unfold writeS
    rw [s.kind_s h]
    cases hk : kind g o.path false with
    | error e => exact ⟨s, rfl⟩
    | ok x =>
      simp only
      split
      · exact ⟨s, rfl⟩
      split
      · exact ⟨s, rfl⟩
      split
      · exact ⟨s, rfl⟩
      · rw [s.bytes]
        exact ⟨s.setB_s x _, rfl⟩
  split
  · unfold truncS
    rw [s.kind_s h]
    cases hk : kind g o.path false with
    | error e => exact ⟨s, rfl⟩
    | ok x =>
      simp only
      split
      · exact ⟨s, rfl⟩
      split
      · exact ⟨s, rfl⟩
      · rw [s.bytes]
        exact ⟨s.setB_s x _, rfl⟩
  split
  · unfold statS
    rw [s.leads_s h]
    cases hl : leads g o.path with
    | error e => exact ⟨s, rfl⟩
    | ok x =>
      simp only
      rw [s.dirs, s.bytes, s.links, (s.perm x).length_eq]
      split
      · exact ⟨s, rfl⟩
      · exact ⟨s, rfl⟩
  split
  · unfold listS
    rw [s.kind_s h]
    cases hk : kind g o.path true with
    | error e => exact ⟨s, rfl⟩
    | ok x =>
      simp only
      rw [sortS_perm ((s.perm x).map _)]
      exact ⟨s, rfl⟩
  · exact ⟨s, rfl⟩
theorem Sim.rel_s (s : Sim g g') (h : Inv g) {E : Ents} (r : Rel g E) : Rel g' E := ⟨fun ns x => by rw [s.go_s h]; exact r.mem ns x, r.nodup, fun x => by rw [s.links]; exact r.links x⟩
theorem Sim.wt_s (s : Sim g g') (l : List Nat) : wt g' l = wt g l := by
  unfold wt
  congr 1
  exact List.map_congr_left (fun i _ => (s.perm i).length_eq)
theorem Sim.fine_s (s : Sim g g') {k : Nat} (h : Fine k g) : Fine k g' := by
  obtain ⟨⟨hi, E, hr, hE⟩, ht, hn⟩ := h
  exact ⟨⟨s.inv_s hi, E, s.rel_s hi hr, hE⟩, by rw [s.wt_s, s.next]; exact ht, by rw [s.next]; exact hn⟩
end
theorem Sim.run_s : ∀ (l : List Ask) {g g' : St}, Sim g g' → Inv g → Sim (run g l) (run g' l)
  | [], _, _, s, _ => s
  | o :: l, _, _, s, h => Sim.run_s l (s.step_s h o).1 (step_inv h o)
end Go.Proofs.YtaccokghjpcijaaGreatDoor
set_option linter.unusedVariables false
set_option linter.unusedSimpArgs false
namespace Go.Proofs.YtaccokghjpcijaaGreatDoor
open Go Go.RowKit Pp

/-! ### what is refused changes nothing -/
theorem lay_told (g : St) (s : Str) (x : Nat) : (told (lay g s x).2).code = 0 ∨ ∃ c, ((lay g s x).1, told (lay g s x).2) = (g, told c) := by
  by_cases he : (lay g s x).2 = 0
  · exact .inl he
  · exact .inr ⟨(lay g s x).2, by rw [lay_still he]⟩
def Refu (g : St) (r : St × Ans) : Prop := r.2.code = 0 ∨ ∃ c, r = (g, told c)
set_option maxHeartbeats 2000000 in
theorem step_refused {g : St} (h : Inv g) (o : Ask) : Refu g (step g o) := by
  have hmade : ∀ n : Node, n.ents = none ∨ n.ents = some [] → Refu g (made g o.path n) := fun n hn => by
    rcases made_cases h o.path hn with ⟨c, _, _, e⟩ | ⟨d, nm, _, e⟩
    · exact .inr ⟨c, e⟩
    · rw [e]; exact .inl rfl
  unfold step
  split
  · exact hmade _ (.inl rfl)
  split
  · exact hmade _ (.inr rfl)
  split
  · unfold linkS
    cases hk : kind g o.path false with
    | error e => exact .inr ⟨e, rfl⟩
    | ok x => exact lay_told g o.dst x
  split
  · unfold unlinkS
    cases hk : kind g o.path false with
    | error e => exact .inr ⟨e, rfl⟩
    | ok x => exact .inl rfl
  split
  · unfold rmdirS
    by_cases hr : o.path = [47]
    · rw [if_pos hr]; exact .inr ⟨1, rfl⟩
    · rw [if_neg hr]
      cases hk : kind g o.path true with
      | error e => exact .inr ⟨e, rfl⟩
      | ok x =>
        simp only
        by_cases he : 0 < (entsOf g x).length
        · rw [if_pos he]; exact .inr ⟨14, rfl⟩
        · rw [if_neg he]; exact .inl rfl
  split
  · rcases rename_cases h o with ⟨c, _, e⟩ | ⟨g', k, l, x, d1, d2, n1, n2, e, _⟩
    · exact .inr ⟨c, e⟩
    · rw [e]; exact .inl rfl
  split
  · unfold readS
    cases hk : kind g o.path false with
    | error e => exact .inr ⟨e, rfl⟩
    | ok x =>
      simp only
      split
      · exact .inr ⟨1, rfl⟩
      · exact .inl rfl
  split
  · rcases write_cases (g := g) o with ⟨c, e, _⟩ | ⟨x, _, _, _, e⟩
    · exact .inr ⟨c, e⟩
    · rw [e]; exact .inl rfl
  split
  · unfold truncS
    cases hk : kind g o.path false with
    | error e => exact .inr ⟨e, rfl⟩
    | ok x =>
      simp only
      split
      · exact .inr ⟨1, rfl⟩
      split
      · exact .inr ⟨13, rfl⟩
      · exact .inl rfl
  split
  · unfold statS
    cases hl : leads g o.path with
    | error e => exact .inr ⟨e, rfl⟩
    | ok x =>
      simp only
      split <;> exact .inl rfl
  split
  · unfold listS
    cases hk : kind g o.path true with
    | error e => exact .inr ⟨e, rfl⟩
    | ok x => exact .inl rfl
  · exact .inr ⟨1, rfl⟩
/-- What ModelRefused asks of a state, its copy, and the answers. -/
theorem refused_plain {g gc g1 g2 g3 : St} {r a b : Ans} (hI : Inv g) (hs : Sim g gc) {o ask : Ask} (h1 : step g o = (g1, r)) (h2 : step g1 ask = (g2, a)) (h3 : step gc ask = (g3, b)) (hc : r.code ≠ 0) :
    g1 = g ∧ r.n = 0 ∧ r.data = [] ∧ r.names = [] ∧ a = b := by
  rcases step_refused hI o with h | ⟨c, h⟩
  · rw [h1] at h; exact absurd h hc
  · rw [h1] at h
    cases h
    refine ⟨rfl, rfl, rfl, rfl, ?_⟩
    have := (hs.step_s hI ask).2
    rw [h2, h3] at this
    exact this.symm

/-- How many names an answer has. -/
def Nms (n : Nat) (r : St × Ans) : Prop := r.2.names.length ≤ n
set_option maxHeartbeats 2000000 in
theorem step_names {k : Nat} {g : St} (h : Fine k g) (o : Ask) : Nms (k + 1) (step g o) := by
  have h0 : ∀ γ e, Nms (k + 1) (γ, told e) := fun γ e => Nat.zero_le _
  have hmade : ∀ n : Node, Nms (k + 1) (made g o.path n) := fun n => by unfold made; exact h0 _ _
  unfold step
  split
  · exact hmade _
  split
  · exact hmade _
  split
  · unfold linkS
    cases hk : kind g o.path false with
    | error e => exact h0 _ _
    | ok x => exact h0 _ _
  split
  · unfold unlinkS
    cases hk : kind g o.path false with
    | error e => exact h0 _ _
    | ok x => exact h0 _ _
  split
  · unfold rmdirS
    split
    · exact h0 _ _
    · cases hk : kind g o.path true with
      | error e => exact h0 _ _
      | ok x =>
        simp only
        split <;> exact h0 _ _
  split
  · rcases rename_cases h.good.inv o with ⟨c, _, e⟩ | ⟨g', _, _, _, _, _, _, _, e, _⟩
    · rw [e]; exact h0 _ _
    · rw [e]; exact h0 _ _
  split
  · unfold readS
    cases hk : kind g o.path false with
    | error e => exact h0 _ _
    | ok x =>
      simp only
      split <;> exact Nat.zero_le _
  split
  · rcases write_cases (g := g) o with ⟨c, e, _⟩ | ⟨x, _, _, _, e⟩
    · rw [e]; exact h0 _ _
    · rw [e]; exact Nat.zero_le _
  split
  · unfold truncS
    cases hk : kind g o.path false with
    | error e => exact h0 _ _
    | ok x =>
      simp only
      split
      · exact h0 _ _
      split
      · exact h0 _ _
      · exact h0 _ _
  split
  · unfold statS
    cases hl : leads g o.path with
    | error e => exact h0 _ _
    | ok x =>
      simp only
      split
      · exact Nat.zero_le _
      · exact Nat.succ_le_succ (Nat.zero_le _)
  split
  · unfold listS
    cases hk : kind g o.path true with
    | error e => exact h0 _ _
    | ok x =>
      show (sortS _).length ≤ k + 1
      unfold sortS
      rw [List.length_mergeSort, List.length_map]
      have := h.ents x
      omega
  · exact h0 _ _

/-! ### what is moved -/
theorem parts_slash (s : Str) : parts (47 :: s) = [] :: parts s := by
  conv => lhs; unfold parts
  rw [if_pos rfl]
theorem parts_char {c : UInt8} (hc : c ≠ 47) {s h : Str} {t : List Str} (e : parts s = h :: t) : parts (c :: s) = (c :: h) :: t := by
  conv => lhs; unfold parts
  rw [if_neg hc, e]
theorem parts_cat (r s : Str) : parts (r ++ 47 :: s) = parts r ++ parts s := by
  induction r with
  | nil => exact parts_slash s
  | cons c r ih =>
    show parts (c :: (r ++ 47 :: s)) = _
    by_cases hc : c = 47
    · subst hc
      rw [parts_slash, parts_slash, ih]
      rfl
    · obtain ⟨h, t, e⟩ := parts_cons r
      rw [e] at ih
      rw [parts_char hc e, parts_char hc ih]
      rfl
theorem split_below {a s : Str} {k : List Str} (h : split a = some k) (hk : k ≠ []) : split (a ++ 47 :: s) = if (parts s).all okName = true then some (k ++ parts s) else none := by
  rcases split_some h with ⟨_, rfl⟩ | ⟨r, rfl, hr, ha, rfl⟩
  · exact absurd rfl hk
  · show split (47 :: (r ++ 47 :: s)) = _
    have hne : r ++ 47 :: s ≠ [] := by simp
    cases hs : (parts s).all okName with
    | true => rw [if_pos rfl, split_ok hne (by rw [parts_cat, List.all_append, ha, hs]; rfl), parts_cat]
    | false => rw [if_neg (by simp), split_bad hne (by rw [parts_cat, List.all_append, ha, hs]; rfl)]
theorem walk_under {g g' : St} : ∀ {q : List Str} {i : Nat}, (∀ r j, go g i r = some j → entsOf g' j = entsOf g j ∧ isDir g' j = isDir g j) → walk g' i q = walk g i q
  | [], i, _ => rfl
  | n :: q, i, h => by
    obtain ⟨h1, h2⟩ := h [] i rfl
    rw [walk_cons, walk_cons, h1, h2]
    cases isDir g i with
    | false => rfl
    | true =>
      rw [if_pos rfl, if_pos rfl]
      cases hl : look (entsOf g i) n with
      | none => rfl
      | some j => exact walk_under (fun r y hr => h (n :: r) y (by rw [go_cons, hl]; exact hr))
def statA (g : St) (r : Except Int Nat) : Ans := match r with
  | .error e => told e
  | .ok x => if isDir g x = true then ⟨0, (entsOf g x).length, dirT, []⟩ else ⟨0, (g.node x).bytes.length, fileT, [Lib.decDigits (g.node x).links.toNat]⟩
theorem statS_eq (g : St) (o : Ask) : statS g o = (g, statA g (leads g o.path)) := by
  unfold statS statA
  cases leads g o.path with
  | error e => rfl
  | ok x =>
    simp only
    split <;> rfl
section
variable {g g' : St} {k l : List Str} {x d1 d2 : Nat} {n1 n2 : Str}
theorem Moved.src (m : Moved g g' k l x d1 d2 n1 n2) : Go.Proofs.YtaccokghjpcijaaGreatDoor.go g 0 (k ++ [n1]) = some x := by rw [go_snoc, m.p1]; exact m.l1
theorem Moved.dst (m : Moved g g' k l x d1 d2 n1 n2) : Go.Proofs.YtaccokghjpcijaaGreatDoor.go g 0 (l ++ [n2]) = none := by rw [go_snoc, m.p2]; exact m.l2
theorem Moved.off1 (m : Moved g g' k l x d1 d2 n1 n2) (h : Inv g) (r : List Str) : Go.Proofs.YtaccokghjpcijaaGreatDoor.go g x r ≠ some d1 := fun hr => by
  have := h.same_path (p := k ++ [n1] ++ r) (by rw [go_append, m.src]; exact hr) m.p1 m.dir1
  have := congrArg List.length this
  simp at this
theorem Moved.off2 (m : Moved g g' k l x d1 d2 n1 n2) (h : Inv g) (r : List Str) : Go.Proofs.YtaccokghjpcijaaGreatDoor.go g x r ≠ some d2 := fun hr => by
  have := h.same_path (p := k ++ [n1] ++ r) (by rw [go_append, m.src]; exact hr) m.p2 m.dir2
  exact m.out ((List.prefix_append (k ++ [n1]) r).trans (by rw [this]; exact List.prefix_append _ _))
theorem Moved.under (m : Moved g g' k l x d1 d2 n1 n2) (h : Inv g) (r : List Str) (j : Nat) (hr : Go.Proofs.YtaccokghjpcijaaGreatDoor.go g x r = some j) : entsOf g' j = entsOf g j ∧ isDir g' j = isDir g j := by
  refine ⟨?_, m.dirs j⟩
  have e1 : j ≠ d1 := fun e => m.off1 h r (by rw [← e]; exact hr)
  have e2 : j ≠ d2 := fun e => m.off2 h r (by rw [← e]; exact hr)
  rw [m.ents, if_neg e1, if_neg e2]
theorem Moved.there (m : Moved g g' k l x d1 d2 n1 n2) (h : Inv g) : Go.Proofs.YtaccokghjpcijaaGreatDoor.go g' 0 (l ++ [n2]) = some x := by
  rw [m.go h, if_neg m.out, if_pos (List.prefix_refl _), List.drop_length]
  rfl
theorem Moved.up (m : Moved g g' k l x d1 d2 n1 n2) (h : Inv g) : Go.Proofs.YtaccokghjpcijaaGreatDoor.go g' 0 k = some d1 := by
  rw [m.go h, if_neg (fun e => by have := e.length_le; simp at this; omega), if_neg (fun e => by have := go_none_prefix e m.dst; rw [m.p1] at this; cases this)]
  exact m.p1
theorem Moved.gone (m : Moved g g' k l x d1 d2 n1 n2) : look (entsOf g' d1) n1 = none := by
  rw [m.ents, if_pos rfl, look_del, if_pos rfl]
theorem Moved.walked (m : Moved g g' k l x d1 d2 n1 n2) (h : Inv g) (hlk : 0 ≤ (g.node x).links ∧ (g.node x).links < 1000000000) (q : List Str) : statA g' (walk g' 0 (l ++ [n2] ++ q)) = statA g (walk g 0 (k ++ [n1] ++ q)) := by
  rw [walk_append (p := l ++ [n2]), walk_append (p := k ++ [n1]), go_walk.2 (m.there h), go_walk.2 m.src]
  simp only
  rw [walk_under (g := g) (fun r j hr => m.under h r j hr)]
  cases hw : walk g x q with
  | error e => rfl
  | ok y =>
    have hu := m.under h q y (go_walk.1 hw)
    unfold statA
    simp only
    rw [hu.1, hu.2, m.bytes, m.links]
    have hl : (if y = x then wrap64 (wrap64 ((g.node x).links + 1) + -1) else (g.node y).links) = (g.node y).links := by
      by_cases e : y = x
      · rw [if_pos e, e]; unfold wrap64; omega
      · rw [if_neg e]
    rw [hl]
theorem Moved.stat (m : Moved g g' k l x d1 d2 n1 n2) (h : Inv g) (hlk : 0 ≤ (g.node x).links ∧ (g.node x).links < 1000000000) {a b below : Str} (ha : split a = some (k ++ [n1])) (hb : split b = some (l ++ [n2])) (hbel : below = [] ∨ ∃ s, below = 47 :: s) :
    statA g' (leads g' (b ++ below)) = statA g (leads g (a ++ below)) := by
  rcases hbel with rfl | ⟨s, rfl⟩
  · have := m.walked h hlk []
    simp only [List.append_nil] at this ⊢
    unfold leads
    rw [ha, hb]
    exact this
  · unfold leads
    rw [split_below ha (by simp), split_below hb (by simp)]
    by_cases hs : (parts s).all okName = true
    · rw [if_pos hs, if_pos hs]; exact m.walked h hlk _
    · rw [if_neg hs, if_neg hs]; rfl
theorem Moved.missing (m : Moved g g' k l x d1 d2 n1 n2) (h : Inv g) {a : Str} (ha : split a = some (k ++ [n1])) : (statA g' (leads g' a)).code = 8 := by
  unfold leads
  rw [ha]
  simp only
  rw [walk_append, go_walk.2 (m.up h)]
  simp only
  rw [walk_cons, m.dirs, m.dir1, if_pos rfl, m.gone]
  rfl
theorem Moved.back (m : Moved g g' k l x d1 d2 n1 n2) (h : Inv g) {a b : Str} (ha : split a = some (k ++ [n1])) (hb : split b = some (l ++ [n2])) (o1 o2 : Int) (dt : Str) : (renameS g' ⟨5, b, a, o1, o2, dt⟩).2.code = 0 := by
  have hb0 : b ≠ [47] := fun e => by rw [e, split_root] at hb; simp at hb
  have hlb : leads g' b = .ok x := leads_go.2 ⟨_, hb, m.there h⟩
  have hw : ¬ within b a = true := fun e => by
    obtain ⟨k', l', h1, h2, h3⟩ := within_iff.1 e
    rw [hb] at h1
    rw [ha] at h2
    cases h1
    cases h2
    have := go_none_prefix h3 m.dst
    rw [m.src] at this
    cases this
  have hk : split (join k) = some k := split_join (fun p hp => split_names ha p (List.mem_append_left _ hp))
  have hf : free g' a = .ok (d1, n1) := by
    unfold free kind
    rw [parentV_snoc ha]
    simp only
    rw [leads_go.2 ⟨k, hk, m.up h⟩]
    simp only [m.dirs, m.dir1, Bool.true_eq_false, Bool.false_eq_true, and_false, false_and, and_true, if_false, if_true, m.gone]
  have hl : (lay g' a x).2 = 0 := by unfold lay; rw [hf]
  unfold renameS
  simp only
  rw [if_neg hb0, hlb]
  simp only
  rw [if_neg hw, show lay g' a x = ((lay g' a x).1, (lay g' a x).2) from rfl]
  simp only
  rw [if_pos hl]
  exact hl
end
theorem step_statA {g : St} {s : Str} : step g ⟨9, s, [], 0, 0, []⟩ = (g, statA g (leads g s)) := by rw [step_stat rfl, statS_eq]
theorem stat_names (g : St) (r : Except Int Nat) : (statA g r).names.length ≤ 1 := by
  unfold statA
  split
  · exact Nat.zero_le _
  · split <;> simp
/-- What ModelMoves asks. -/
theorem moves_plain {g gc g1 gx gy gz g2 g3 : St} {a x y z gone b : Ans} {k : Nat} (hG : Good k g) (hk : k ≤ 1000) (hs : Sim g gc) {src dst below : Str} (hbel : below = [] ∨ ∃ s, below = 47 :: s)
    (h1 : step g ⟨5, src, dst, 0, 0, []⟩ = (g1, a)) (h2 : step gc ⟨9, src ++ below, [], 0, 0, []⟩ = (gx, x)) (h3 : step g1 ⟨9, dst ++ below, [], 0, 0, []⟩ = (gy, y)) (h4 : step gy ⟨9, src, [], 0, 0, []⟩ = (gz, gone))
    (h5 : step gz ⟨5, dst, src, 0, 0, []⟩ = (g2, b)) (h6 : step g2 ⟨9, src ++ below, [], 0, 0, []⟩ = (g3, z)) (hc : a.code = 0) :
    x = y ∧ gone.code = 8 ∧ within src dst = false ∧ b.code = 0 ∧ x = z ∧ x.names.length ≤ 1 := by
  have hI := hG.inv
  have hG1 : Good (k + 1) g1 := by have := hG.step (by omega) ⟨5, src, dst, 0, 0, []⟩; rw [h1] at this; exact this
  have hx : x = statA g (leads g (src ++ below)) := by
    have := (hs.step_s hI ⟨9, src ++ below, [], 0, 0, []⟩).2
    rw [h2, step_statA] at this
    exact this
  rw [step_rename rfl] at h1
  rw [step_statA] at h3 h4 h6
  cases h3
  cases h4
  cases h6
  rw [step_rename rfl] at h5
  rcases rename_cases hI ⟨5, src, dst, 0, 0, []⟩ with ⟨c, hc', e⟩ | ⟨g', p, l, i, d1, d2, n1, n2, e, hp, hl, hlead, _, m⟩
  · rw [h1] at e
    cases e
    exact absurd hc hc'
  rw [h1] at e
  cases e
  have hb := m.back hI hp hl 0 0 []
  rw [h5] at hb
  have hlk := hG.links i
  have hst := m.stat hI (by omega) hp hl hbel
  rcases rename_cases hG1.inv ⟨5, dst, src, 0, 0, []⟩ with ⟨c, hc', e⟩ | ⟨g'', p', l', i', d1', d2', n1', n2', e, hp', hl', hlead', _, m'⟩
  · rw [h5] at e
    cases e
    exact absurd hb hc'
  rw [h5] at e
  cases e
  simp only at hp hl hp' hl'
  rw [hl] at hp'
  rw [hp] at hl'
  obtain ⟨e1, e2⟩ := snoc_inj.1 (Option.some.inj hp')
  obtain ⟨e3, e4⟩ := snoc_inj.1 (Option.some.inj hl')
  subst e1 e2 e3 e4
  have hlk' := hG1.links i'
  have hst' := m'.stat hG1.inv (by omega) hl hp hbel
  have hw : within src dst = false := by
    cases hw : within src dst with
    | false => rfl
    | true =>
      obtain ⟨k', l', h1, h2, h3⟩ := within_iff.1 hw
      rw [hp] at h1
      rw [hl] at h2
      cases h1
      cases h2
      exact absurd h3 m.out
  refine ⟨by rw [hx, hst], m.missing hI hp, hw, hb, by rw [hx, hst', hst], by rw [hx]; exact stat_names _ _⟩
theorem moves_plain1 {g gc g1 gx gy gz : St} {a x y gone : Ans} {k : Nat} (hG : Good k g) (hk : k ≤ 1000) (hs : Sim g gc) {src dst below : Str} (hbel : below = [] ∨ ∃ s, below = 47 :: s)
    (h1 : step g ⟨5, src, dst, 0, 0, []⟩ = (g1, a)) (h2 : step gc ⟨9, src ++ below, [], 0, 0, []⟩ = (gx, x)) (h3 : step g1 ⟨9, dst ++ below, [], 0, 0, []⟩ = (gy, y)) (h4 : step gy ⟨9, src, [], 0, 0, []⟩ = (gz, gone)) (hc : a.code = 0) :
    x = y ∧ gone.code = 8 ∧ within src dst = false ∧ x.names.length ≤ 1 := by
  rcases h5 : step gz ⟨5, dst, src, 0, 0, []⟩ with ⟨g2, b⟩
  rcases h6 : step g2 ⟨9, src ++ below, [], 0, 0, []⟩ with ⟨g3, z⟩
  obtain ⟨p1, p2, p3, _, _, p4⟩ := moves_plain hG hk hs hbel h1 h2 h3 h4 h5 h6 hc
  exact ⟨p1, p2, p3, p4⟩
end Go.Proofs.YtaccokghjpcijaaGreatDoor
set_option linter.unusedVariables false
set_option linter.unusedSimpArgs false
namespace Go.Proofs.YtaccokghjpcijaaGreatDoor
open Go Go.RowKit Pp Go.Proofs.YtaccokghjpcijaaGreatDoorW.PrintWords
open Go.ChangeMaps (setBlock)

/-! ### Copy: its closure -/
/-- The copies of some things: t says where each lies; they are as what they are copies of. -/
structure Cps (S : Nat → Prop) (loc mloc : Nat → Nat) (g : St) (wb wm n0 : Nat) (t : Nat → Nat) (H : Nat → Prop) (vis : List Nat) (W : World) : Prop where
  own : ∀ b, H b ↔ b = wb ∨ b = wm ∨ ∃ i ∈ vis, b = t i
  box : W.heap[wb]? = some (.cells #[.map (some wm)] 78 (0, 0))
  map : MapAt W wm (vis.map fun i => (ptr (loc i), ptr (t i)))
  node : ∀ i ∈ vis, W.heap[t i]? = some (.cells #[entsV mloc i (g.node i), .string (Go.Proofs.YtaccokghjpcijaaGreatDoor.mk (g.node i).bytes), .int .i64 (g.node i).links] 57 (0, 0))
  inj : ∀ i ∈ vis, ∀ j ∈ vis, t i = t j → i = j
  low : ∀ i ∈ vis, n0 ≤ t i
  tw : ∀ i ∈ vis, t i ≠ wb
  ins : ∀ i ∈ vis, S i
  n0w : n0 ≤ W.heap.size
def CpD (S : Nat → Prop) (loc mloc : Nat → Nat) (g : St) (wb wm n0 : Nat) (H : Nat → Prop) (vis : List Nat) (W : World) : Prop := ∃ t, Cps S loc mloc g wb wm n0 t H vis W
theorem infoTwin : Tryz.prog.underlying 78 = some (.map 54 54) := Tryz.underlying78
section
variable {F S : Nat → Prop} {tb : Nat} {loc mloc : Nat → Nat} {g : St} {wb wm n0 : Nat} {t : Nat → Nat} {H : Nat → Prop} {vis : List Nat} {W W' : World}
theorem Cps.same (h : Cps S loc mloc g wb wm n0 t H vis W) (hs : ∀ b, H b → W'.heap[b]? = W.heap[b]?) (hz : W.heap.size ≤ W'.heap.size) : Cps S loc mloc g wb wm n0 t H vis W' :=
  { h with
    box := (hs _ ((h.own _).2 (.inl rfl))).trans h.box
    map := h.map.same (hs _ ((h.own _).2 (.inr (.inl rfl))))
    node := fun i hi => (hs _ ((h.own _).2 (.inr (.inr ⟨i, hi, rfl⟩)))).trans (h.node i hi)
    n0w := Nat.le_trans h.n0w hz }
theorem Cps.lt (h : Cps S loc mloc g wb wm n0 t H vis W) : ∀ b, H b → b < W.heap.size := fun b hb => by
  rcases (h.own b).1 hb with rfl | rfl | ⟨i, hi, rfl⟩
  · exact some_lt h.box
  · exact h.map.lt
  · exact some_lt (h.node i hi)
theorem Cps.keys (h : Cps S loc mloc g wb wm n0 t H vis W) (hR : Rep W F tb S loc mloc g) : ∀ p ∈ vis.map (fun i => (ptr (loc i), ptr (t i))), PtrKey W p.1 := fun p hp => by
  obtain ⟨i, hi, rfl⟩ := List.mem_map.1 hp
  exact ptr_key hR (h.ins i hi)
theorem Cps.none (h : Cps S loc mloc g wb wm n0 t H vis W) (hR : Rep W F tb S loc mloc g) {x : Nat} (hx : S x) (hv : x ∉ vis) : lookL (vis.map fun i => (ptr (loc i), ptr (t i))) (ptr (loc x)) = none := lookL_none (fun p hp e => by
  obtain ⟨i, hi, rfl⟩ := List.mem_map.1 hp
  exact hv (hR.inj i x (h.ins i hi) hx (ptr_inj e) ▸ hi))
theorem Cps.some (h : Cps S loc mloc g wb wm n0 t H vis W) {x : Nat} (hv : x ∈ vis) : lookL (vis.map fun i => (ptr (loc i), ptr (t i))) (ptr (loc x)) = some (ptr (t x)) := by
  obtain ⟨j, hj⟩ := List.getElem?_of_mem hv
  exact lookL_some (j := j) h.map.keys (by rw [List.getElem?_map, hj]; rfl)
end
set_option maxRecDepth 100000 in
set_option maxHeartbeats 2000000 in
theorem copy1_calls {F S : Nat → Prop} {tb : Nat} {loc mloc : Nat → Nat} {g : St} {wb wm n0 : Nat} {H : Nat → Prop} {vis : List Nat} {x : Nat} {W : World} (hD : CpD S loc mloc g wb wm n0 H vis W) (hR : Rep W F tb S loc mloc g) (hx : S x) (hv : x ∉ vis) :
    Calls Tryz.prog 45 #[ptr (loc x), ptr wb] W fun e W' => e = .returned (.tuple #[]) ∧ ∃ H', CpD S loc mloc g wb wm n0 H' (vis ++ [x]) W' ∧ Fr H W W' ∧ ∀ b, H' b → H b ∨ W.heap.size ≤ b := by
  obtain ⟨t, hD⟩ := hD
  have hN := (hR.node x hx).heap
  obtain ⟨mm, hev, _⟩ := entsV_dir mloc x (g.node x)
  have q0 : W.cell? ⟨loc x, 0, none⟩ = some (.map mm) := by rw [← hev]; exact heap_cell hN 0 _ rfl
  have q1 : W.cell? ⟨loc x, 1, none⟩ = some (.string (mk (g.node x).bytes)) := heap_cell hN 1 _ rfl
  have q2 : W.cell? ⟨loc x, 2, none⟩ = some (.int .i64 (g.node x).links) := heap_cell hN 2 _ rfl
  obtain ⟨W1, hW1⟩ : ∃ W1, W.alloc (.cells #[entsV mloc x (g.node x), .string (mk (g.node x).bytes), .int .i64 (g.node x).links] 57) = W1 := ⟨_, rfl⟩
  have hb : Below W.heap.size W W1 := by rw [← hW1]; exact balloc (Below.refl _ _)
  have hD1 := hD.same (W' := W1) (fun b hb' => hb.block b (hD.lt b hb')) hb.size
  have hR1 := hR.below hb
  have hnew : W1.heap[W.heap.size]? = some (.cells #[entsV mloc x (g.node x), .string (mk (g.node x).bytes), .int .i64 (g.node x).links] 57 (0, 0)) := by rw [← hW1]; exact heap_alloc_new _ _
  have hsz : W1.heap.size = W.heap.size + 1 := by rw [← hW1]; simp
  have q3 : W.cell? ⟨wb, 0, none⟩ = some (.map (some wm)) := heap_cell hD.box 0 _ rfl
  have q4 := some_lt hD.box
  obtain ⟨o, hrun, hm⟩ := hD1.map.put thingOps infoTwin (hD1.keys hR1) (val := ptr W.heap.size) (ptr_key hR1 hx) (hD1.none hR1 hx hv)
  have hwm := hD.map.lt
  have hlts := hD.lt
  have hne : ∀ i ∈ vis, t i ≠ wm := fun i hi => cells_ne_map (hD1.node i hi) hD1.map
  have hti : ∀ i ∈ vis, t i < W.heap.size := fun i hi => some_lt (hD.node i hi)
  have hix : ∀ i ∈ vis, i ≠ x := fun i hi e => hv (e ▸ hi)
  have hres : CpD S loc mloc g wb wm n0 (fun b => H b ∨ b = W.heap.size) (vis ++ [x]) (setBlock W1 wm o) := by
    refine ⟨fun i => if i = x then W.heap.size else t i, fun b => ?_, ?_, ?_, fun i hi => ?_, fun i hi j hj e => ?_, fun i hi => ?_, fun i hi => ?_, fun i hi => ?_, ?_⟩
    · rw [hD.own]
      constructor
      · rintro ((e | e | ⟨i, hi, e⟩) | e)
        · exact .inl e
        · exact .inr (.inl e)
        · exact .inr (.inr ⟨i, List.mem_append_left _ hi, by rw [if_neg (hix i hi)]; exact e⟩)
        · exact .inr (.inr ⟨x, by simp, by rw [if_pos rfl]; exact e⟩)
      · rintro (e | e | ⟨i, hi, e⟩)
        · exact .inl (.inl e)
        · exact .inl (.inr (.inl e))
        · rcases List.mem_append.1 hi with hi | hi
          · rw [if_neg (hix i hi)] at e
            exact .inl (.inr (.inr ⟨i, hi, e⟩))
          · rw [if_pos (List.mem_singleton.1 hi)] at e
            exact .inr e
    · exact (block_same (cells_ne_map hD1.box hD1.map)).trans hD1.box
    · have e : (vis ++ [x]).map (fun i => (ptr (loc i), ptr (if i = x then W.heap.size else t i))) = vis.map (fun i => (ptr (loc i), ptr (t i))) ++ [(ptr (loc x), ptr W.heap.size)] := by
        rw [List.map_append]
        congr 1
        · exact List.map_congr_left (fun i hi => by rw [if_neg (hix i hi)])
        · simp
      rw [e]
      exact hm
    · rcases List.mem_append.1 hi with hi | hi
      · rw [if_neg (hix i hi)]
        exact (block_same (hne i hi)).trans (hD1.node i hi)
      · obtain rfl := List.mem_singleton.1 hi
        rw [if_pos rfl]
        exact (block_same (by omega)).trans hnew
    · rcases List.mem_append.1 hi with hi | hi
      · rw [if_neg (hix i hi)] at e
        rcases List.mem_append.1 hj with hj | hj
        · rw [if_neg (hix j hj)] at e
          exact hD.inj i hi j hj e
        · rw [if_pos (List.mem_singleton.1 hj)] at e
          have := hti i hi
          omega
      · rw [if_pos (List.mem_singleton.1 hi)] at e
        rcases List.mem_append.1 hj with hj | hj
        · rw [if_neg (hix j hj)] at e
          have := hti j hj
          omega
        · rw [List.mem_singleton.1 hi, List.mem_singleton.1 hj]
    · rcases List.mem_append.1 hi with hi | hi
      · rw [if_neg (hix i hi)]; exact hD.low i hi
      · rw [if_pos (List.mem_singleton.1 hi)]; exact hD.n0w
    · rcases List.mem_append.1 hi with hi | hi
      · rw [if_neg (hix i hi)]; exact hD.tw i hi
      · rw [if_pos (List.mem_singleton.1 hi)]; have := some_lt hD.box; omega
    · rcases List.mem_append.1 hi with hi | hi
      · exact hD.ins i hi
      · rw [List.mem_singleton.1 hi]; exact hx
    · have h1 := hD.n0w
      have h2 : (setBlock W1 wm o).heap.size = W1.heap.size := by simp [setBlock]
      omega
  have hfr : Fr H W (setBlock W1 wm o) := (Fr.of_below hb).trans (Fr.set o ((hD.own wm).2 (.inr (.inl rfl))))
  have HRES := Lib.hid hres
  have HFR := Lib.hid hfr
  rw [← hW1] at hrun
  have HW := Lib.hid hW1
  rw [hev] at HW hrun
  clear hN hD hR hx hv hW1 hb hD1 hR1 hnew hsz hm hwm hlts hne hti hix hres hfr hev
  unfold ptr at *
  go_enter Tryz.func45, Tryz.ntmps45
  go_wp2_with fail
  rw [HW.out]
  go_end0
  exact ⟨rfl, _, HRES.out, HFR.out, fun b hb => hb.imp id (fun e => by omega)⟩
end Go.Proofs.YtaccokghjpcijaaGreatDoor
set_option linter.unusedVariables false
set_option linter.unusedSimpArgs false
namespace Go.Proofs.YtaccokghjpcijaaGreatDoor
open Go Go.RowKit Pp
open Go.ChangeMaps (setBlock)

/-! ### Copy: what stands between its rounds -/
theorem perm_map_inv {α β : Type} {f : α → β} : ∀ {l m : List β}, l.Perm m → ∀ {td : List α}, m = td.map f → ∃ td' : List α, td'.Perm td ∧ l = td'.map f := by
  intro l m h
  induction h with
  | nil =>
    intro td e
    have : td = [] := List.map_eq_nil_iff.1 e.symm
    subst this
    exact ⟨[], List.Perm.refl _, rfl⟩
  | cons x _ ih =>
    intro td e
    cases td with
    | nil => cases e
    | cons a t =>
      rw [List.map_cons] at e
      injection e with e1 e2
      obtain ⟨td', h1, h2⟩ := ih e2
      exact ⟨a :: td', h1.cons a, by rw [List.map_cons, e1, h2]⟩
  | swap x y l =>
    intro td e
    match td, e with
    | a :: b :: t, e =>
      rw [List.map_cons, List.map_cons] at e
      injection e with e1 e2
      injection e2 with e2 e3
      exact ⟨b :: a :: t, List.Perm.swap a b t, by rw [List.map_cons, List.map_cons, e1, e2, e3]⟩
  | trans _ _ ih1 ih2 =>
    intro td e
    obtain ⟨t1, h1, e1⟩ := ih2 e
    obtain ⟨t2, h2, e2⟩ := ih1 e1
    exact ⟨t2, h2.trans h1, e2⟩
theorem perm_cons_inv {α β : Type} {f : α → β} {p : β} {l : List β} {td : List α} (h : (p :: l).Perm (td.map f)) : ∃ (q : α) (td' : List α), p = f q ∧ l = td'.map f ∧ (q :: td').Perm td := by
  obtain ⟨td0, h1, h2⟩ := perm_map_inv h rfl
  cases td0 with
  | nil => cases h2
  | cons q td' =>
    rw [List.map_cons] at h2
    injection h2 with e1 e2
    exact ⟨q, td', e1, e2, h1⟩
/-- A thing with its entries in another order. -/
def nd (g : St) (L : Nat → List (Str × Nat)) (i : Nat) : Node := { g.node i with ents := (g.node i).ents.map fun _ => L i }
def pr (loc t : Nat → Nat) (i : Nat) : Value × Value := (ptr (loc i), ptr (t i))
/-- What Copy has found: each thing, once, and where its copy lies. -/
structure CFix (g : St) (S : Nat → Prop) (t : Nat → Nat) (wb n0 : Nat) (vis : List Nat) : Prop where
  tw : ∀ i ∈ vis, t i ≠ wb
  nodup : vis.Nodup
  zero : 0 ∈ vis
  closed : ∀ i ∈ vis, ∀ p ∈ entsOf g i, p.2 ∈ vis
  ins : ∀ i ∈ vis, S i
  inj : ∀ i ∈ vis, ∀ j ∈ vis, t i = t j → i = j
  low : ∀ i ∈ vis, n0 ≤ t i
/-- Between two rounds: td is still to come, dn is done; vs: both together. -/
structure CMid (F S : Nat → Prop) (tb : Nat) (loc mloc : Nat → Nat) (g : St) (wb wm n0 : Nat) (t : Nat → Nat) (vis vs : List Nat) (r : Nat) (W0 : World) (td dn : List Nat) (m : Nat → Nat) (L : Nat → List (Str × Nat)) (W : World) : Prop where
  rep : Rep W F tb S loc mloc g
  flt : ∀ b, F b → b < n0
  it : IterAt W r (some wm) (vis.map (pr loc t)) (td.map (pr loc t))
  box : W.heap[wb]? = some (.cells #[.map (some wm)] 78 (0, 0))
  map : MapAt W wm (vis.map (pr loc t))
  perm : (td ++ dn).Perm vs
  sub : ∀ i ∈ vs, i ∈ vis
  old : ∀ i ∈ td, W.heap[t i]? = some (.cells #[entsV mloc i (g.node i), .string (Go.Proofs.YtaccokghjpcijaaGreatDoor.mk (g.node i).bytes), .int .i64 (g.node i).links] 57 (0, 0))
  new : ∀ i ∈ dn, NodeAt W t m i (nd g L i)
  pm : ∀ i ∈ dn, isDir g i = true → (L i).Perm (entsOf g i)
  mlow : ∀ i ∈ dn, isDir g i = true → n0 ≤ m i
  minj : ∀ i ∈ dn, ∀ j ∈ dn, isDir g i = true → isDir g j = true → m i = m j → i = j
  rlow : n0 ≤ r
  fr : Below n0 W0 W
  n0w : n0 ≤ W.heap.size
section
variable {F S : Nat → Prop} {tb : Nat} {loc mloc : Nat → Nat} {g : St} {wb wm n0 : Nat} {t : Nat → Nat} {vis vs : List Nat} {r : Nat} {W0 : World} {td dn : List Nat} {m : Nat → Nat} {L : Nat → List (Str × Nat)} {W W' : World}
theorem nd_ents {i : Nat} {l : List (Str × Nat)} (h : (nd g L i).ents = some l) : l = L i ∧ isDir g i = true := by
  unfold nd at h
  unfold isDir
  cases e : (g.node i).ents with
  | none => rw [e] at h; cases h
  | some l' => rw [e] at h; injection h with h; exact ⟨h.symm, rfl⟩
theorem nd_some (i : Nat) : (nd g L i).ents.isSome = isDir g i := by
  unfold nd isDir
  cases (g.node i).ents <;> rfl
theorem iter_ne_cells {r b : Nat} {mm : Option Nat} {l todo : List (Value × Value)} {cs : Array Value} {ty : TypeId} (h : IterAt W r mm l todo) (hb : W.heap[b]? = some (.cells cs ty (0, 0))) : b ≠ r := fun e => by
  obtain ⟨_, _, _, _, hr⟩ := h.block
  rw [e, hr] at hb
  cases hb
theorem iter_ne_map {r b : Nat} {mm : Option Nat} {l l' todo : List (Value × Value)} (h : IterAt W r mm l todo) (hb : MapAt W b l') : b ≠ r := fun e => by
  obtain ⟨_, _, _, _, hr⟩ := h.block
  obtain ⟨es, c, hb, _⟩ := hb
  rw [e, hr] at hb
  cases hb
theorem NodeAt.old {i : Nat} {n : Node} (h : NodeAt W t m i n) (hn : n.ents = none) : W.heap[t i]? = some (.cells #[.map none, .string (Go.Proofs.YtaccokghjpcijaaGreatDoor.mk n.bytes), .int .i64 n.links] 57 (0, 0)) := by
  unfold NodeAt at h
  rw [hn] at h
  exact h
/-- Blocks that don't matter turn. -/
theorem CMid.step {X : Nat → Prop} (h : CMid F S tb loc mloc g wb wm n0 t vis vs r W0 td dn m L W) (hf : Fr X W W') (hlow : ∀ b, X b → n0 ≤ b) (h1 : ¬ X wb) (h2 : ¬ X wm) (h3 : ¬ X r) (h4 : ∀ i ∈ vs, ¬ X (t i)) (h5 : ∀ i ∈ dn, isDir g i = true → ¬ X (m i)) :
    CMid F S tb loc mloc g wb wm n0 t vis vs r W0 td dn m L W' :=
  { h with
    rep := h.rep.same (fun b hb => hf.block b (by have := h.flt b hb; have := h.n0w; omega) (fun hx => by have := h.flt b hb; have := hlow b hx; omega))
    it := h.it.same (hf.block r h.it.lt h3) (fun b e => by cases e; exact hf.block wm h.map.lt h2)
    box := (hf.block wb (some_lt h.box) h1).trans h.box
    map := h.map.same (hf.block wm h.map.lt h2)
    old := fun i hi => (hf.block _ (some_lt (h.old i hi)) (h4 i (h.perm.mem_iff.1 (List.mem_append_left _ hi)))).trans (h.old i hi)
    new := fun i hi => (h.new i hi).same (hf.block _ (h.new i hi).loc_lt (h4 i (h.perm.mem_iff.1 (List.mem_append_right _ hi)))) (fun hd => hf.block _ ((h.new i hi).mloc_lt hd) (h5 i hi (by rw [nd_some] at hd; exact hd)))
    fr := ⟨hf.os.trans h.fr.os, hf.tape.trans h.fr.tape, hf.output.trans h.fr.output, Nat.le_trans h.fr.size hf.size, fun k hk => (hf.block k (by have := h.n0w; omega) (fun hx => by have := hlow k hx; omega)).trans (h.fr.block k hk)⟩
    n0w := Nat.le_trans h.n0w hf.size }
/-- The iterator has come on. -/
theorem CMid.next {x : Nat} {td' : List Nat} {w1 : World} {o : Obj} (h : CMid F S tb loc mloc g wb wm n0 t vis vs r W0 td dn m L W) (hw : w1 = W ∨ w1 = W.drew) (hp : (x :: td').Perm td) (hit : IterAt (setBlock w1 r o) r (some wm) (vis.map (pr loc t)) (td'.map (pr loc t))) (hvs : vs.Nodup) :
    ∃ vs', (x :: vs').Perm vs ∧ x ∉ vs' ∧ CMid F S tb loc mloc g wb wm n0 t vis vs' r W0 td' dn m L (setBlock w1 r o) ∧ (setBlock w1 r o).heap[t x]? = some (.cells #[entsV mloc x (g.node x), .string (Go.Proofs.YtaccokghjpcijaaGreatDoor.mk (g.node x).bytes), .int .i64 (g.node x).links] 57 (0, 0)) := by
  have hf : Fr (fun b => b = r) W (setBlock w1 r o) := by
    rcases hw with rfl | rfl
    · exact Fr.set o rfl
    · exact (Fr.refl _ _).drew.trans (Fr.set o rfl)
  have hx : x ∈ td := hp.mem_iff.1 List.mem_cons_self
  have hperm : (x :: (td' ++ dn)).Perm vs := (hp.append_right dn).trans h.perm
  have hnr : ∀ i ∈ vs, t i ≠ r := fun i hi => by
    rcases List.mem_append.1 (h.perm.mem_iff.2 hi) with hi | hi
    · exact iter_ne_cells h.it (h.old i hi)
    · exact iter_ne_cells h.it (h.new i hi).heap
  have hnm : ∀ i ∈ dn, isDir g i = true → m i ≠ r := fun i hi hd => by
    obtain ⟨l, hl⟩ := Option.isSome_iff_exists.1 (by rw [nd_some]; exact hd : (nd g L i).ents.isSome = true)
    exact iter_ne_map h.it ((h.new i hi).map hl)
  have hnd := hperm.nodup_iff.2 hvs
  rw [List.nodup_cons] at hnd
  refine ⟨td' ++ dn, hperm, hnd.1, ?_, (hf.block _ (some_lt (h.old x hx)) (hnr x (h.perm.mem_iff.1 (List.mem_append_left _ hx)))).trans (h.old x hx)⟩
  have hs : ∀ i ∈ td' ++ dn, i ∈ vs := fun i hi => hperm.mem_iff.1 (List.mem_cons_of_mem _ hi)
  exact {
    rep := h.rep.same (fun b hb => hf.block b (by have := h.flt b hb; have := h.n0w; omega) (fun e => by have := h.flt b hb; have := h.rlow; omega))
    flt := h.flt, it := hit
    box := (hf.block wb (some_lt h.box) (iter_ne_cells h.it h.box)).trans h.box
    map := h.map.same (hf.block wm h.map.lt (iter_ne_map h.it h.map))
    perm := List.Perm.refl _
    sub := fun i hi => h.sub i (hs i hi)
    old := fun i hi => (hf.block _ (some_lt (h.old i (hp.mem_iff.1 (List.mem_cons_of_mem _ hi)))) (hnr i (hs i (List.mem_append_left _ hi)))).trans (h.old i (hp.mem_iff.1 (List.mem_cons_of_mem _ hi)))
    new := fun i hi => (h.new i hi).same (hf.block _ (h.new i hi).loc_lt (hnr i (hs i (List.mem_append_right _ hi)))) (fun hd => hf.block _ ((h.new i hi).mloc_lt hd) (hnm i hi (by rw [nd_some] at hd; exact hd)))
    pm := h.pm, mlow := h.mlow, minj := h.minj, rlow := h.rlow
    fr := ⟨hf.os.trans h.fr.os, hf.tape.trans h.fr.tape, hf.output.trans h.fr.output, Nat.le_trans h.fr.size hf.size, fun k hk => (hf.block k (by have := h.n0w; omega) (fun e => by have := h.rlow; omega)).trans (h.fr.block k hk)⟩
    n0w := Nat.le_trans h.n0w hf.size }
/-- One more is done. -/
theorem CMid.add {x M : Nat} {acc : List (Str × Nat)} {vs' : List Nat} (h : CMid F S tb loc mloc g wb wm n0 t vis vs' r W0 td dn m L W) (hx : (x :: vs').Perm vs) (hxv : x ∈ vis) (hnx : x ∉ vs') (hn : NodeAt W t (fun i => if i = x then M else m i) x (nd g (fun i => if i = x then acc else L i) x))
    (hp : isDir g x = true → acc.Perm (entsOf g x)) (hM : isDir g x = true → n0 ≤ M) (hMm : isDir g x = true → ∀ i ∈ dn, isDir g i = true → m i ≠ M) :
    CMid F S tb loc mloc g wb wm n0 t vis vs r W0 td (x :: dn) (fun i => if i = x then M else m i) (fun i => if i = x then acc else L i) W := by
  have hne : ∀ i ∈ dn, i ≠ x := fun i hi e => hnx (e ▸ h.perm.mem_iff.1 (List.mem_append_right _ hi))
  have hnd : ∀ i, i ≠ x → nd g (fun i => if i = x then acc else L i) i = nd g L i := fun i hi => by unfold nd; simp only [if_neg hi]
  exact { h with
    perm := (List.perm_middle).trans ((h.perm.cons x).trans hx)
    sub := fun i hi => by
      rcases List.mem_cons.1 (hx.mem_iff.2 hi) with rfl | hi
      · exact hxv
      · exact h.sub i hi
    new := fun i hi => by
      rcases List.mem_cons.1 hi with rfl | hi
      · exact hn
      · rw [hnd i (hne i hi)]
        have := h.new i hi
        unfold NodeAt at this ⊢
        simp only [if_neg (hne i hi)]
        exact this
    pm := fun i hi hd => by
      rcases List.mem_cons.1 hi with rfl | hi
      · simp only [if_pos]; exact hp hd
      · simp only [if_neg (hne i hi)]; exact h.pm i hi hd
    mlow := fun i hi hd => by
      rcases List.mem_cons.1 hi with rfl | hi
      · simp only [if_pos]; exact hM hd
      · simp only [if_neg (hne i hi)]; exact h.mlow i hi hd
    minj := fun i hi j hj hd hd' e => by
      rcases List.mem_cons.1 hi with e1 | hi'
      · subst e1
        rcases List.mem_cons.1 hj with e2 | hj'
        · exact e2.symm
        · simp only [if_pos, if_neg (hne j hj')] at e
          exact absurd e.symm (hMm hd j hj' hd')
      · rcases List.mem_cons.1 hj with e2 | hj'
        · subst e2
          simp only [if_pos, if_neg (hne i hi')] at e
          exact absurd e (hMm hd' i hi' hd)
        · simp only [if_neg (hne i hi'), if_neg (hne j hj')] at e
          exact h.minj i hi' j hj' hd hd' e }
/-- The copy, when all is done. -/
noncomputable def cpy (g : St) (vis : List Nat) (L : Nat → List (Str × Nat)) : St := ⟨fun i => if i ∈ vis then nd g L i else g.node i, g.next⟩
theorem CMid.sim (h : CMid F S tb loc mloc g wb wm n0 t vis vis r W0 [] dn m L W) : Sim g (cpy g vis L) := by
  have hp : dn.Perm vis := by simpa using h.perm
  have hin : ∀ i, i ∈ vis → (cpy g vis L).node i = nd g L i := fun i hi => if_pos hi
  have hout : ∀ i, i ∉ vis → (cpy g vis L).node i = g.node i := fun i hi => if_neg hi
  refine ⟨rfl, fun i => ?_, fun i => ?_, fun i => ?_, fun i => ?_⟩
  · by_cases hi : i ∈ vis
    · rw [hin i hi]; rfl
    · rw [hout i hi]
  · by_cases hi : i ∈ vis
    · rw [hin i hi]; rfl
    · rw [hout i hi]
  · by_cases hi : i ∈ vis
    · conv => lhs; unfold isDir
      rw [hin i hi, nd_some]
    · unfold isDir; rw [hout i hi]
  · by_cases hi : i ∈ vis
    · conv => lhs; unfold entsOf
      rw [hin i hi]
      cases hd : isDir g i with
      | true =>
        have hpm := h.pm i (hp.mem_iff.2 hi) hd
        obtain ⟨l, hl⟩ := Option.isSome_iff_exists.1 (by rw [nd_some]; exact hd : (nd g L i).ents.isSome = true)
        rw [hl, (nd_ents hl).1]
        exact hpm
      | false =>
        have : (nd g L i).ents = none := by
          have := nd_some (g := g) (L := L) i
          rw [hd] at this
          cases e : (nd g L i).ents with
          | none => rfl
          | some l => rw [e] at this; cases this
        rw [this, entsOf_file hd]
        exact List.Perm.refl _
    · unfold entsOf; rw [hout i hi]
theorem CMid.tree (h : CMid F S tb loc mloc g wb wm n0 t vis vis r W0 [] dn m L W) (hI : Inv g) (hF : CFix g S t wb n0 vis) (hb : W'.heap[W.heap.size]? = some (.cells #[ptr (t 0)] 59 (0, 0))) (hB : Below W.heap.size W W') :
    Tree W' (fun b => b = W.heap.size ∨ (∃ i ∈ vis, b = t i) ∨ ∃ i ∈ vis, isDir g i = true ∧ b = m i) W.heap.size (cpy g vis L) := by
  have hp : dn.Perm vis := by simpa using h.perm
  have hs := h.sim
  have hin : ∀ i, i ∈ vis → (cpy g vis L).node i = nd g L i := fun i hi => if_pos hi
  have hnode : ∀ i ∈ vis, NodeAt W t m i (nd g L i) := fun i hi => h.new i (hp.mem_iff.2 hi)
  refine ⟨⟨fun i => i ∈ vis, t, m, ?_⟩, ?_⟩
  · exact {
      root := hb, zero := hF.zero, dir0 := by rw [hs.dirs]; exact hI.dir0
      lt := fun i hi => h.rep.lt i (hF.ins i hi)
      closed := fun i l hi hl p hpl => by
        rw [hin i hi] at hl
        obtain ⟨rfl, hd⟩ := nd_ents hl
        exact hF.closed i hi p ((h.pm i (hp.mem_iff.2 hi) hd).mem_iff.1 hpl)
      node := fun i hi => by
        rw [hin i hi]
        exact (hnode i hi).same (hB.block _ (hnode i hi).loc_lt) (fun hd => hB.block _ ((hnode i hi).mloc_lt hd))
      small := fun i hi => by rw [hs.bytes]; exact hI.small i
      inj := fun i j hi hj e => hF.inj i hi j hj e
      minj := fun i j hi hj hd hd' e => by rw [hs.dirs] at hd hd'; exact h.minj i (hp.mem_iff.2 hi) j (hp.mem_iff.2 hj) hd hd' e
      ft := .inl rfl
      fl := fun i hi => .inr (.inl ⟨i, hi, rfl⟩)
      fm := fun i hi hd => .inr (.inr ⟨i, hi, by rw [hs.dirs] at hd; exact hd, rfl⟩) }
  · have hsz := some_lt hb
    rintro b (rfl | ⟨i, hi, rfl⟩ | ⟨i, hi, hd, rfl⟩)
    · exact hsz
    · have := (hnode i hi).loc_lt; omega
    · have := (hnode i hi).mloc_lt (by rw [nd_some]; exact hd); omega
end
end Go.Proofs.YtaccokghjpcijaaGreatDoor
set_option linter.unusedVariables false
set_option linter.unusedSimpArgs false
namespace Go.Proofs.YtaccokghjpcijaaGreatDoor
open Go Go.RowKit Pp Go.Proofs.YtaccokghjpcijaaGreatDoorW.PrintWords
open Go.ChangeMaps (setBlock)

/-! ### Copy -/
def CopyPost (W : World) (F : Nat → Prop) (tb : Nat) (g : St) (e : Ending) (W' : World) : Prop :=
  ∃ tb' F' g', e = .returned (ptr tb') ∧ Tree W' F tb g ∧ Tree W' F' tb' g' ∧ Sim g g' ∧ Below W.heap.size W W' ∧ ∀ b, F' b → W.heap.size ≤ b
/-- The inner loop, over x's entries: td2 is still to come, acc is done. -/
structure CIn (g : St) (loc mloc t : Nat → Nat) (n0 wm x M r r2 : Nat) (td2 acc : List (Str × Nat)) (W : World) : Prop where
  it : IterAt W r2 (some (mloc x)) ((entsOf g x).map (entV loc)) (td2.map (entV loc))
  cell : W.heap[t x]? = some (.cells #[.map (some M), .string (Go.Proofs.YtaccokghjpcijaaGreatDoor.mk (g.node x).bytes), .int .i64 (g.node x).links] 57 (0, 0))
  map : MapAt W M (acc.map (entV t))
  low : n0 ≤ M
  r2low : n0 ≤ r2
  rr : r2 ≠ r
  mwm : M ≠ wm
section
variable {F S : Nat → Prop} {tb : Nat} {loc mloc : Nat → Nat} {g : St} {wb wm n0 : Nat} {t : Nat → Nat} {vis vs : List Nat} {r : Nat} {W0 : World} {td dn : List Nat} {m : Nat → Nat} {L : Nat → List (Str × Nat)} {W W' : World} {x M r2 : Nat} {td2 acc : List (Str × Nat)}
theorem CMid.mapOf (h : CMid F S tb loc mloc g wb wm n0 t vis vs r W0 td dn m L W) {i : Nat} (hi : i ∈ dn) (hd : isDir g i = true) : ∃ l, MapAt W (m i) l := by
  obtain ⟨l, hl⟩ := Option.isSome_iff_exists.1 (by rw [nd_some]; exact hd : (nd g L i).ents.isSome = true)
  exact ⟨_, (h.new i hi).map hl⟩
theorem CMid.cellsOf (h : CMid F S tb loc mloc g wb wm n0 t vis vs r W0 td dn m L W) {i : Nat} (hi : i ∈ vs) : ∃ cs, W.heap[t i]? = some (.cells cs 57 (0, 0)) := by
  rcases List.mem_append.1 (h.perm.mem_iff.2 hi) with hi | hi
  · exact ⟨_, h.old i hi⟩
  · exact ⟨_, (h.new i hi).heap⟩
theorem CIn.next {td2' : List (Str × Nat)} {w1 : World} {o : Obj} (h : CIn g loc mloc t n0 wm x M r r2 td2 acc W) (hC : CMid F S tb loc mloc g wb wm n0 t vis vs r W0 td dn m L W) (hw : w1 = W ∨ w1 = W.drew) (hit : IterAt (setBlock w1 r2 o) r2 (some (mloc x)) ((entsOf g x).map (entV loc)) (td2'.map (entV loc))) :
    CIn g loc mloc t n0 wm x M r r2 td2' acc (setBlock w1 r2 o) ∧ CMid F S tb loc mloc g wb wm n0 t vis vs r W0 td dn m L (setBlock w1 r2 o) := by
  have hf : Fr (fun b => b = r2) W (setBlock w1 r2 o) := by
    rcases hw with rfl | rfl
    · exact Fr.set o rfl
    · exact (Fr.refl _ _).drew.trans (Fr.set o rfl)
  refine ⟨⟨hit, (hf.block _ (some_lt h.cell) (iter_ne_cells h.it h.cell)).trans h.cell, h.map.same (hf.block _ h.map.lt (iter_ne_map h.it h.map)), h.low, h.r2low, h.rr, h.mwm⟩, hC.step hf (fun b e => e ▸ h.r2low) (iter_ne_cells h.it hC.box) (iter_ne_map h.it hC.map) (fun e => h.rr e.symm) (fun i hi => ?_) (fun i hi hd => ?_)⟩
  · obtain ⟨cs, hcs⟩ := hC.cellsOf hi
    exact iter_ne_cells h.it hcs
  · obtain ⟨l, hl⟩ := hC.mapOf hi hd
    exact iter_ne_map h.it hl
theorem CIn.put {acc' : List (Str × Nat)} {w1 : World} {o : Obj} (h : CIn g loc mloc t n0 wm x M r r2 td2 acc W) (hC : CMid F S tb loc mloc g wb wm n0 t vis vs r W0 td dn m L W) (hw : w1 = W ∨ w1 = W.drew) (hS : S x) (hd : isDir g x = true) (hMm : ∀ i ∈ dn, isDir g i = true → m i ≠ M) (hm : MapAt (setBlock w1 M o) M (acc'.map (entV t))) :
    CIn g loc mloc t n0 wm x M r r2 td2 acc' (setBlock w1 M o) ∧ CMid F S tb loc mloc g wb wm n0 t vis vs r W0 td dn m L (setBlock w1 M o) := by
  have hf : Fr (fun b => b = M) W (setBlock w1 M o) := by
    rcases hw with rfl | rfl
    · exact Fr.set o rfl
    · exact (Fr.refl _ _).drew.trans (Fr.set o rfl)
  refine ⟨⟨h.it.same (hf.block _ h.it.lt (fun e => iter_ne_map h.it h.map e.symm)) (fun b e => by
      cases e
      exact hf.block _ ((hC.rep.node x hS).mloc_lt hd) (fun e => by have := hC.flt _ (hC.rep.fm x hS hd); have := h.low; omega)), (hf.block _ (some_lt h.cell) (cells_ne_map h.cell h.map)).trans h.cell, hm, h.low, h.r2low, h.rr, h.mwm⟩, hC.step hf (fun b e => e ▸ h.low) (cells_ne_map hC.box h.map) (fun e => h.mwm e.symm) (fun e => iter_ne_map hC.it h.map e.symm) (fun i hi => ?_) (fun i hi hd => hMm i hi hd)⟩
  obtain ⟨cs, hcs⟩ := hC.cellsOf hi
  exact cells_ne_map hcs h.map
/-- x's new map is made, its old entries are ranged over. -/
theorem CIn.start {W1 : World} (hC : CMid F S tb loc mloc g wb wm n0 t vis vs r W0 td dn m L W) (hF : CFix g S t wb n0 vis) (hx : x ∈ vis) (hxv : x ∉ vs) (hd : isDir g x = true)
    (hcell : W.heap[t x]? = some (.cells #[entsV mloc x (g.node x), .string (Go.Proofs.YtaccokghjpcijaaGreatDoor.mk (g.node x).bytes), .int .i64 (g.node x).links] 57 (0, 0)))
    (h1 : W1 = (W.alloc (.map #[] 0)).setCell ⟨t x, 0, none⟩ (.map (some W.heap.size))) :
    ∃ o, (Instr.range 55 (.map (some (mloc x)))).run Tryz.prog W1 = .ok (.pointer (some ⟨W.heap.size + 1, 0, none⟩)) (W1.alloc o) ∧ W1.cell? ⟨loc x, 0, none⟩ = some (.map (some (mloc x))) ∧
      CIn g loc mloc t n0 wm x W.heap.size r (W.heap.size + 1) (entsOf g x) [] (W1.alloc o) ∧ CMid F S tb loc mloc g wb wm n0 t vis vs r W0 td dn m L (W1.alloc o) ∧ ∀ i ∈ dn, isDir g i = true → m i ≠ W.heap.size := by
  have hS := hF.ins x hx
  have htx := some_lt hcell
  have hsz : W1.heap.size = W.heap.size + 1 := by rw [h1]; simp
  have hf1 : Fr (fun b => b = t x) W W1 := by
    rw [h1]
    exact (Fr.of_below (balloc (Below.refl _ _))).trans (Fr.cell (p := ⟨t x, 0, none⟩) _ rfl)
  have hC1 : CMid F S tb loc mloc g wb wm n0 t vis vs r W0 td dn m L W1 := hC.step hf1 (fun b e => e ▸ hF.low x hx) (fun e => hF.tw x hx e.symm) (fun e => cells_ne_map hcell hC.map e.symm) (fun e => iter_ne_cells hC.it hcell e.symm) (fun i hi e => hxv (hF.inj i (hC.sub i hi) x hx e ▸ hi)) (fun i hi hdi e => by
    obtain ⟨l, hl⟩ := hC.mapOf hi hdi
    exact cells_ne_map hcell hl e.symm)
  have hMm : ∀ i ∈ dn, isDir g i = true → m i ≠ W.heap.size := fun i hi hdi e => by
    obtain ⟨l, hl⟩ := hC.mapOf hi hdi
    have := hl.lt
    omega
  have hN := hC1.rep.node x hS
  have he := hC1.rep.dir_ents hd
  obtain ⟨o, hrange, hit⟩ := (hN.map he).range Tryz.underlying55
  rw [hsz] at hrange hit
  have hb : Below W1.heap.size W1 (W1.alloc o) := balloc (Below.refl _ _)
  have hcx := heap_cell hN.heap 0 _ rfl
  have hev : entsV mloc x (g.node x) = .map (some (mloc x)) := by unfold entsV; rw [he]
  rw [hev] at hcx
  have hmap : MapAt W1 W.heap.size [] := by
    rw [h1]
    exact (MapAt.made W).same (Below.heap_setCell _ _ _ _ (by show W.heap.size ≠ t x; omega))
  have hc1 : W1.heap[t x]? = some (.cells #[.map (some W.heap.size), .string (Go.Proofs.YtaccokghjpcijaaGreatDoor.mk (g.node x).bytes), .int .i64 (g.node x).links] 57 (0, 0)) := by
    rw [h1, heap_setCell_same _ _ 0 _ _ _ ((Below.heap_alloc _ _ _ htx).trans hcell)]
    rfl
  have hrlt := hC.it.lt
  have hwlt := hC.map.lt
  have hn0 := hC.n0w
  refine ⟨o, hrange, hcx, ⟨hit, (hb.block _ (some_lt hc1)).trans hc1, (hmap.same (hb.block _ hmap.lt)), hn0, by omega, by omega, by omega⟩, hC1.step (X := fun _ => False) (Fr.of_below hb) (fun b e => e.elim) id id id (fun _ _ => id) (fun _ _ _ => id), hMm⟩
/-- The inner loop has ended. -/
theorem CIn.done {vs' : List Nat} (h : CIn g loc mloc t n0 wm x M r r2 [] acc W) (hC : CMid F S tb loc mloc g wb wm n0 t vis vs' r W0 td dn m L W) (hd : isDir g x = true) (hp : acc.Perm (entsOf g x)) (hx : (x :: vs').Perm vs) (hxv : x ∈ vis) (hnx : x ∉ vs') (hMm : ∀ i ∈ dn, isDir g i = true → m i ≠ M) :
    CMid F S tb loc mloc g wb wm n0 t vis vs r W0 td (x :: dn) (fun i => if i = x then M else m i) (fun i => if i = x then acc else L i) W := by
  refine hC.add hx hxv hnx ?_ (fun _ => hp) (fun _ => h.low) (fun _ => hMm)
  have he := hC.rep.dir_ents hd
  unfold NodeAt nd
  simp only [he, Option.map_some, if_pos]
  exact ⟨h.cell, h.map⟩
/-- A file is as it was. -/
theorem CMid.file {vs' : List Nat} (hC : CMid F S tb loc mloc g wb wm n0 t vis vs' r W0 td dn m L W) (hd : isDir g x = false)
    (hcell : W.heap[t x]? = some (.cells #[entsV mloc x (g.node x), .string (Go.Proofs.YtaccokghjpcijaaGreatDoor.mk (g.node x).bytes), .int .i64 (g.node x).links] 57 (0, 0))) (hx : (x :: vs').Perm vs) (hxv : x ∈ vis) (hnx : x ∉ vs') :
    CMid F S tb loc mloc g wb wm n0 t vis vs r W0 td (x :: dn) (fun i => if i = x then 0 else m i) (fun i => if i = x then [] else L i) W := by
  have he : (g.node x).ents = none := by unfold isDir at hd; cases e : (g.node x).ents with | none => rfl | some l => rw [e] at hd; cases hd
  refine hC.add hx hxv hnx ?_ (fun h => by rw [hd] at h; cases h) (fun h => by rw [hd] at h; cases h) (fun h => by rw [hd] at h; cases h)
  unfold entsV at hcell
  rw [he] at hcell
  unfold NodeAt nd
  simp only [he, Option.map_none]
  exact hcell
end
end Go.Proofs.YtaccokghjpcijaaGreatDoor
set_option linter.unusedVariables false
set_option linter.unusedSimpArgs false
namespace Go.Proofs.YtaccokghjpcijaaGreatDoor
open Go Go.RowKit Pp Go.Proofs.YtaccokghjpcijaaGreatDoorW.PrintWords
open Go.ChangeMaps (setBlock)

section
variable {F S : Nat → Prop} {tb : Nat} {loc mloc : Nat → Nat} {g : St} {wb wm n0 : Nat} {t : Nat → Nat} {vis vs : List Nat} {r : Nat} {W0 : World} {td dn : List Nat} {m : Nat → Nat} {L : Nat → List (Str × Nat)} {W W' : World} {x M r2 : Nat} {td2 acc : List (Str × Nat)}
/-- What the twin map answers. -/
theorem CMid.twin (h : CMid F S tb loc mloc g wb wm n0 t vis vs r W0 td dn m L W) (hF : CFix g S t wb n0 vis) {i : Nat} (hi : i ∈ vis) : (Instr.lookup 78 (.map (some wm)) (ptr (loc i)) false).run Tryz.prog W = .ok (ptr (t i)) W := by
  have hk : ∀ p ∈ vis.map (pr loc t), PtrKey W p.1 := fun p hp => by
    obtain ⟨j, hj, rfl⟩ := List.mem_map.1 hp
    exact ptr_key h.rep (hF.ins j hj)
  have hl : lookL (vis.map (pr loc t)) (ptr (loc i)) = some (ptr (t i)) := by
    obtain ⟨j, hj⟩ := List.getElem?_of_mem hi
    exact lookL_some (j := j) h.map.keys (by rw [List.getElem?_map, hj]; rfl)
  have := h.map.look thingOps infoTwin (zero_ptr W) hk (ptr_key h.rep (hF.ins i hi)) false
  rw [hl] at this
  exact this
theorem CMid.drew (h : CMid F S tb loc mloc g wb wm n0 t vis vs r W0 td dn m L W) : CMid F S tb loc mloc g wb wm n0 t vis vs r W0 td dn m L W.drew :=
  h.step (X := fun _ => False) (Fr.refl _ _).drew (fun b e => e.elim) id id id (fun _ _ => id) (fun _ _ _ => id)
/-- A store into x's new map. -/
theorem CIn.store (h : CIn g loc mloc t n0 wm x M r r2 td2 acc W) {q : Str × Nat} (hn : look acc q.1 = none) : ∃ o, (Instr.mapUpdate 55 (.map (some M)) (.string (Go.Proofs.YtaccokghjpcijaaGreatDoor.mk q.1)) (ptr (t q.2))).run Tryz.prog W = .ok () (setBlock W M o) ∧ MapAt (setBlock W M o) M ((acc ++ [q]).map (entV t)) := by
  obtain ⟨o, hrun, hm⟩ := h.map.put (strOps Tryz.underlying9) Tryz.underlying55 (str_keys W t acc) (key := .string (Go.Proofs.YtaccokghjpcijaaGreatDoor.mk q.1)) (val := ptr (t q.2)) ⟨_, rfl⟩ (by rw [lookL_ents, hn]; rfl)
  exact ⟨o, hrun, by rw [List.map_append]; exact hm⟩
theorem CIn.drew (h : CIn g loc mloc t n0 wm x M r r2 td2 acc W) : CIn g loc mloc t n0 wm x M r r2 td2 acc W.drew := ⟨h.it.same rfl (fun _ _ => rfl), h.cell, h.map.same rfl, h.low, h.r2low, h.rr, h.mwm⟩
end
set_option maxRecDepth 100000 in
set_option maxHeartbeats 8000000 in
theorem copy_calls {W : World} {F : Nat → Prop} {tb : Nat} {g : St} (h : Tree W F tb g) (hI : Inv g) (hT : wt g (List.range g.next) ≤ 1152921504606846976) (hN : g.next ≤ 1099511627776) : Calls Tryz.prog 20 #[ptr tb] W (CopyPost W F tb g) := by
  obtain ⟨⟨S, loc, mloc, hr⟩, hF⟩ := h
  obtain ⟨W1, hW1⟩ : ∃ W1, (W.alloc (.map #[] 0)).alloc (.cells #[.map (some W.heap.size)] 78) = W1 := ⟨_, rfl⟩
  have hbl : Below W.heap.size W W1 := by rw [← hW1]; exact balloc (balloc (Below.refl _ _))
  have hsz : W1.heap.size = W.heap.size + 2 := by rw [← hW1]; simp
  have k1 : MapAt W1 W.heap.size [] := by
    rw [← hW1]
    exact (MapAt.made W).same (Below.heap_alloc _ _ _ (by simp))
  have k2 : W1.heap[W.heap.size + 1]? = some (.cells #[.map (some W.heap.size)] 78 (0, 0)) := by
    rw [← hW1]
    have := heap_alloc_new (W.alloc (.map #[] 0)) (.cells #[.map (some W.heap.size)] 78)
    rw [World.size_alloc] at this
    exact this
  have hdo : Doer (fun W => Rep W F tb S loc mloc g) S loc 45 #[ptr (W.heap.size + 1)] (CpD S loc mloc g (W.heap.size + 1) W.heap.size W.heap.size) g.next := {
    enters := enters_of Tryz.func45 (by kernel_rfl) rfl
    lt := fun H vis W' hD b hb => by obtain ⟨t, hD⟩ := hD; exact hD.lt b hb
    same := fun H vis W' W'' hD hs hz => by obtain ⟨t, hD⟩ := hD; exact ⟨t, hD.same hs hz⟩
    calls := fun H vis x W' hD hR hx hv _ _ => copy1_calls hD hR hx hv }
  have hc := all_calls hI hdo (H := fun b => b = W.heap.size + 1 ∨ b = W.heap.size) (hr.below hbl) (fun b hb => by have := hF b hb; omega) ⟨fun _ => 0, ⟨fun b => by simp, k2, k1, fun i hi => (by cases hi), fun i hi => (by cases hi), fun i hi => (by cases hi), fun i hi => (by cases hi), fun i hi => (by cases hi), by omega⟩⟩ (fun b hb hf => by have := hF b hf; omega) hT
  have HC := Lib.hid hc
  have HW := Lib.hid hW1
  have HB := Lib.hid hbl
  have HI := Lib.hid hI
  have HF := Lib.hid hF
  have hmm := @run_makeMap Tryz.prog
  clear hW1 hbl hsz k1 k2 hdo hc hr hT hN hI hF
  unfold ptr at HC ⊢
  go_enter Tryz.func20, Tryz.ntmps20
  go_wp2_with fail
  rw [HW.out]
  refine HC.out.mono ?_
  rintro e w2 ⟨rfl, vis, H', hRep, ⟨t, hD⟩, hFr, hH, hlt, hHF, hn, hv⟩
  have hB2 : Below W.heap.size W w2 := HB.out.trans (hFr.below HB.out.size (fun k hk => by omega))
  have hfix : CFix g S t (W.heap.size + 1) W.heap.size vis := ⟨hD.tw, hn, (hv 0).2 ⟨[], rfl⟩, fun i hi p hp => by
    obtain ⟨ns, hns⟩ := (hv i).1 hi
    exact (hv p.2).2 ⟨ns ++ [p.1], by rw [go_snoc, hns]; exact (look_iff (HI.out.nodup i)).2 hp⟩, hD.ins, hD.inj, hD.low⟩
  obtain ⟨o, hrange, hit⟩ := hD.map.range infoTwin
  have qb : w2.cell? ⟨W.heap.size + 1, 0, none⟩ = some (.map (some W.heap.size)) := heap_cell hD.box 0 _ rfl
  obtain ⟨r, hr⟩ : ∃ r, w2.heap.size = r := ⟨_, rfl⟩
  obtain ⟨w3, hw3⟩ : ∃ w3, w2.alloc o = w3 := ⟨_, rfl⟩
  have hb3 : Below w2.heap.size w2 w3 := by rw [← hw3]; exact balloc (Below.refl _ _)
  rw [hr, hw3] at hrange hit
  have hmid : CMid F S tb loc mloc g (W.heap.size + 1) W.heap.size W.heap.size t vis vis r W vis [] (fun _ => 0) (fun _ => []) w3 := {
    rep := hRep.below hb3, flt := HF.out, it := hit, box := (hb3.block _ (some_lt hD.box)).trans hD.box, map := hD.map.same (hb3.block _ hD.map.lt)
    perm := by rw [List.append_nil], sub := fun i hi => hi, old := fun i hi => (hb3.block _ (some_lt (hD.node i hi))).trans (hD.node i hi)
    new := fun i hi => by cases hi
    pm := fun i hi => by cases hi
    mlow := fun i hi => by cases hi
    minj := fun i hi => by cases hi
    rlow := by have := hD.n0w; omega
    fr := hB2.trans (hb3.mono hB2.size)
    n0w := by have := hD.n0w; have := hb3.size; omega }
  have HM0 := Lib.hid hmid
  have HX := Lib.hid hfix
  clear hRep hD hFr hH hlt hHF hn hv hB2 hfix hit hr hw3 hb3 hmid HC HW HB
  go_wp2_with fail
  go_loopw [4, 5, 6, 7] (fun _ _ _ _ wr => ∃ td dn m L, Hid (CMid F S tb loc mloc g (W.heap.size + 1) W.heap.size W.heap.size t vis vis r W td dn m L wr)) (fun _ _ _ _ wr => leftAt wr r)
  case atStart => exact ⟨_, _, _, _, HM0⟩
  case round =>
    obtain ⟨td, dn, m, L, HM⟩ := hrel
    rcases HM.out.it.next (P := Tryz.prog) 0 with ⟨h0, hrun⟩ | ⟨p, todo', o', w1, hw1, hrun, hperm, hit', hon⟩
    · have htd : td = [] := List.map_eq_nil_iff.1 h0
      subst htd
      have q1 : wr.cell? ⟨W.heap.size + 1, 0, none⟩ = some (.map (some W.heap.size)) := heap_cell HM.out.box 0 _ rfl
      have q2 := HM.out.rep.root_cell
      have q3 := HM.out.twin HX.out HX.out.zero
      have q4 := HM.out.drew.twin HX.out HX.out.zero
      clear h0
      unfold ptr at q2 q3 q4
      go_wp2_with fail
      go_region
      go_wp2_with fail
      go_ret
      have hB : Below wr.heap.size wr ((wr.alloc (.cells #[.pointer (some ⟨t 0, 0, none⟩)] 59)).drew) := (balloc (Below.refl _ _)).drew
      exact ⟨wr.heap.size, _, cpy g vis L, rfl, ⟨⟨S, loc, mloc, (HM.out.rep.below hB)⟩, fun b hb => by have := HF.out b hb; have := HM.out.n0w; have := hB.size; omega⟩, HM.out.tree HI.out HX.out (heap_alloc_new _ _) hB, HM.out.sim, bstep HM.out.fr hB, fun b hb => by
        rcases hb with rfl | ⟨i, hi, rfl⟩ | ⟨i, hi, hd, rfl⟩
        · exact HM.out.n0w
        · exact HX.out.low i hi
        · exact HM.out.mlow i ((by simpa using HM.out.perm : dn.Perm vis).mem_iff.2 hi) hd⟩
    · have hent := hon.entry (P := Tryz.prog)
      obtain ⟨x, td', rfl, rfl, hp⟩ := perm_cons_inv hperm
      obtain ⟨vs', hvs, hxv, hC, hcell⟩ := HM.out.next hw1 hp hit' HX.out.nodup
      have hxin : x ∈ vis := hvs.mem_iff.1 List.mem_cons_self
      have hS := HX.out.ins x hxin
      have hlen : td.length = td'.length + 1 := by have := hp.length_eq; rw [List.length_cons] at this; omega
      have HLEN := Lib.hid (show leftAt wr r = td'.length + 1 by rw [HM.out.it.left, List.length_map]; exact hlen)
      obtain ⟨wn, hwn⟩ : ∃ wn, setBlock w1 r o' = wn := ⟨_, rfl⟩
      rw [hwn] at hrun hent hC hcell
      have HC := Lib.hid hC
      have HV := Lib.hid hvs
      have HXV := Lib.hid hxv
      have HXI := Lib.hid hxin
      have HCell := Lib.hid hcell
      have hq := heap_cell (hC.rep.node x hS).heap 0 _ rfl
      obtain ⟨mx, hmx, hms⟩ := entsV_dir mloc x (g.node x)
      have hq0 : wn.cell? ⟨loc x, 0, none⟩ = some (.map mx) := by rw [← hmx]; exact hq
      have hdir := dir_calls wn (loc x) mx hq0
      have HD := Lib.hid hdir
      have HMS := Lib.hid hms
      have HMX := Lib.hid hmx
      clear hdir hq hms hmx hperm hit' hon hw1 hwn hp hlen hcell hC hxv
      unfold pr ptr at hrun hent
      unfold ptr at HD
      go_wp2_with fail
      refine HD.out.mono ?_
      rintro e w4 ⟨rfl, rfl⟩
      clear hrun hent HD
      cases hdx : isDir g x with
      | false =>
        have hz : mx.isSome = false := HMS.out.trans hdx
        have HM2 := Lib.hid (HC.out.file hdx HCell.out HV.out HXI.out HXV.out)
        clear hdx
        go_wp2_with fail
        go_roundw
        case rel => exact ⟨td', x :: dn, _, _, HM2⟩
        case measure => rw [HLEN.out, HM2.out.it.left, List.length_map]; omega
      | true =>
        have hz : mx.isSome = true := HMS.out.trans hdx
        obtain ⟨wa, hwa⟩ : ∃ wa, (w4.alloc (.map #[] 0)).setCell ⟨t x, 0, none⟩ (.map (some w4.heap.size)) = wa := ⟨_, rfl⟩
        obtain ⟨o2, hrange2, hc0, hIn, hC2, hMm⟩ := CIn.start (W1 := wa) HC.out HX.out HXI.out HXV.out hdx HCell.out hwa.symm
        have hcell := HCell.out
        rw [HMX.out] at hcell
        have htx := some_lt hcell
        have q5 : (w4.alloc (.map #[] 0)).cell? ⟨t x, 0, none⟩ = some (.map mx) := heap_cell ((Below.heap_alloc _ _ _ htx).trans hcell) 0 _ rfl
        have q6 := frozen_of_row _ _ 0 _ _ ((Below.heap_alloc w4 (.map #[] 0) _ htx).trans hcell)
        obtain ⟨M, hM⟩ : ∃ M, w4.heap.size = M := ⟨_, rfl⟩
        obtain ⟨wi, hwi⟩ : ∃ wi, wa.alloc o2 = wi := ⟨_, rfl⟩
        rw [hM, hwi] at hrange2 hIn
        rw [hwi] at hC2
        rw [hM] at hMm
        rw [← hwa] at hc0 hrange2
        have HMm := Lib.hid hMm
        have HDX := Lib.hid hdx
        have HIn0 : ∃ td2 acc, Hid (CIn g loc mloc t W.heap.size W.heap.size x M r (M + 1) td2 acc wi ∧ CMid F S tb loc mloc g (W.heap.size + 1) W.heap.size W.heap.size t vis vs' r W td' dn m L wi ∧ (td2 ++ acc).Perm (entsOf g x)) := ⟨_, _, Lib.hid ⟨hIn, hC2, by rw [List.append_nil]⟩⟩
        clear hwa hIn hC2 hMm hcell htx hM hwi hdx HC HCell hq0
        go_wp2_with fail
        clear hc0 q5 q6 hrange2
        go_loopw [6, 7] (fun _ _ wj => ∃ td2 acc, Hid (CIn g loc mloc t W.heap.size W.heap.size x M r (M + 1) td2 acc wj ∧ CMid F S tb loc mloc g (W.heap.size + 1) W.heap.size W.heap.size t vis vs' r W td' dn m L wj ∧ (td2 ++ acc).Perm (entsOf g x))) (fun _ _ wj => leftAt wj (M + 1))
        case atStart => exact HIn0
        case round =>
          obtain ⟨td2, acc, HJ⟩ := hrel
          rcases HJ.out.1.it.next (P := Tryz.prog) 0 with ⟨h0, hrun⟩ | ⟨p, todo', o', w1, hw1, hrun, hperm, hit', hon⟩
          · have htd : td2 = [] := List.map_eq_nil_iff.1 h0
            subst htd
            obtain ⟨j1, j2, j3⟩ := HJ.out
            have HM2 := Lib.hid (j1.done j2 HDX.out j3 HV.out HXI.out HXV.out HMm.out)
            clear h0 j1 j2 j3 HJ HIn0
            go_wp2_with fail
            go_roundw
            case rel => exact ⟨td', x :: dn, _, _, HM2⟩
            case measure => rw [HLEN.out, HM2.out.it.left, List.length_map]; omega
          · have hent := hon.entry (P := Tryz.prog)
            obtain ⟨q, td2', rfl, rfl, hp⟩ := perm_cons_inv hperm
            obtain ⟨j1, j2, j3⟩ := HJ.out


            obtain ⟨i1, i2⟩ := j1.next j2 hw1 hit'
            obtain ⟨wn2, hwn2⟩ : ∃ wn, setBlock w1 (M + 1) o' = wn := ⟨_, rfl⟩
            rw [hwn2] at hrun hent i1 i2
            have hq : q ∈ entsOf g x := j3.mem_iff.1 (List.mem_append_left _ (hp.mem_iff.1 List.mem_cons_self))
            have hpq : (q :: td2' ++ acc).Perm (entsOf g x) := (hp.append_right acc).trans j3
            have hno : look acc q.1 = none := look_none_iff.2 (fun hm => by
              have hnd := ((hpq.map (·.1)).nodup_iff).2 (HI.out.nodup x)
              rw [List.cons_append, List.map_cons, List.nodup_cons] at hnd
              exact hnd.1 (by rw [List.map_append]; exact List.mem_append_right _ hm))
            have hqv : q.2 ∈ vis := HX.out.closed x HXI.out q hq
            obtain ⟨o3, hst, hm3⟩ := i1.store hno
            obtain ⟨o4, hst4, hm4⟩ := i1.drew.store hno
            have l1 := i2.twin HX.out hqv
            have l2 := i2.drew.twin HX.out hqv
            have f1 : wn2.cell? ⟨W.heap.size + 1, 0, none⟩ = some (.map (some W.heap.size)) := heap_cell i2.box 0 _ rfl
            have f2 : wn2.cell? ⟨t x, 0, none⟩ = some (.map (some M)) := heap_cell i1.cell 0 _ rfl
            have HI1 := Lib.hid i1
            have HI2 := Lib.hid i2
            have HP4 := Lib.hid hm4
            have HPQ := Lib.hid (show (td2' ++ (acc ++ [q])).Perm (entsOf g x) from ((List.append_assoc td2' acc [q]) ▸ (List.perm_append_singleton q (td2' ++ acc))).trans hpq)
            have HJL := Lib.hid (show leftAt wr (M + 1) = td2'.length + 1 by rw [j1.it.left, List.length_map, ← hp.length_eq]; rfl)
            clear j1 j2 j3 HJ hp hperm hit' hon hw1 hwn2 i1 i2 hq hpq hno hqv hm3 hm4 HIn0
            unfold entV ptr at hrun hent
            unfold ptr at hst hst4 l1 l2
            go_wp2_with fail
            go_region
            go_roundw
            case rel =>
              obtain ⟨e1, e2⟩ := HI1.out.put HI2.out (.inr rfl) (HX.out.ins x HXI.out) HDX.out HMm.out HP4.out
              exact ⟨_, _, _, _, _, _, _, _, _, _, _, _, _, _, _, ⟨td2', acc ++ [q], Lib.hid ⟨e1, e2, HPQ.out⟩⟩, rfl⟩
            case measure =>
              obtain ⟨e1, e2⟩ := HI1.out.put HI2.out (.inr rfl) (HX.out.ins x HXI.out) HDX.out HMm.out HP4.out
              rw [HJL.out, e1.it.left, List.length_map]
              omega
end Go.Proofs.YtaccokghjpcijaaGreatDoor
set_option linter.unusedVariables false
set_option linter.unusedSimpArgs false
namespace Go.Proofs.YtaccokghjpcijaaGreatDoor
open Go Go.RowKit Pp Go.Proofs.YtaccokghjpcijaaGreatDoorW.PrintWords

theorem names_first {w : World} {v : Value} {ns : List Str} (h : Strs w v ns) : ∃ A c, v = .slice A ns.length c ∧ ns.length ≤ c ∧ (ns = [] ∨ ∃ y t bk o, ns = y :: t ∧ A = some ⟨bk, o, none⟩ ∧ bk < w.heap.size ∧ w.cell? ⟨bk, o, none⟩ = some (.string (mk y))) := by
  obtain ⟨A, c, rfl, hc, hC⟩ := h.kd
  refine ⟨A, c, rfl, hc, ?_⟩
  cases ns with
  | nil => exact .inl rfl
  | cons y t =>
    obtain ⟨bk, o, c', e, _, hlt, hcell⟩ := h.cells (by simp)
    simp only [Value.slice.injEq] at e
    obtain ⟨rfl, _, rfl⟩ := e
    exact .inr ⟨y, t, bk, o, rfl, rfl, hlt, hcell 0 y rfl⟩
theorem names_at {W : World} {A : Option Addr} {n c : Nat} {ns : List Str} (h : Strs W (.slice A n c) ns) (hn : 0 < ns.length) : ∃ ad, A = some ad ∧ ∀ (i : Nat) (y : Str), ns[i]? = some y → W.cell? (ad.add i) = some (.string (mk y)) := by
  obtain ⟨A', c', e, hc, hC⟩ := h
  injection e with e1 e2 e3
  subst e1
  obtain ⟨ad, e, _⟩ := Kd.at_string hC (0 : Int) (by omega) (by omega)
  refine ⟨ad, e, fun i y hy => ?_⟩
  obtain ⟨hi, _⟩ := List.getElem?_eq_some_iff.1 hy
  obtain ⟨ad', e', hh⟩ := Kd.at_string hC (i : Int) (by omega) (by omega)
  rw [e] at e'
  injection e' with e'
  subst e'
  rw [rd_mk ns i y hy, Int.toNat_natCast] at hh
  exact hh
/-- An op that a law holds in a box. -/
theorem op6 {w : World} {b : Nat} {v0 v1 v2 v3 v4 v5 : Value} {t : TypeId} (h : w.heap[b]? = some (.cells #[v0, v1, v2, v3, v4, v5] t)) :
    w.cell? ⟨b, 0, none⟩ = some v0 ∧ w.cell? ⟨b, 1, none⟩ = some v1 ∧ w.cell? ⟨b, 2, none⟩ = some v2 ∧ w.cell? ⟨b, 3, none⟩ = some v3 ∧ w.cell? ⟨b, 4, none⟩ = some v4 ∧ w.cell? ⟨b, 5, none⟩ = some v5 :=
  ⟨heap_cell h 0 _ rfl, heap_cell h 1 _ rfl, heap_cell h 2 _ rfl, heap_cell h 3 _ rfl, heap_cell h 4 _ rfl, heap_cell h 5 _ rfl⟩
theorem block_keep {w w' : World} {b : Nat} {o : Obj} (h : w.heap[b]? = some o) (hb : Below w.heap.size w w') : w'.heap[b]? = some o := (hb.block b (some_lt h)).trans h
theorem askP_mk (f0 f3 f4 : Int) (s1 s2 s5 : Str) : askP ⟨f0, mk s1, mk s2, f3, f4, mk s5⟩ = ⟨f0, s1, s2, f3, f4, s5⟩ := by
  unfold askP
  simp only [mk_toList]
theorem take_map {l : List OpP} {P : Ask → Prop} (h : ∀ o ∈ l.map askP, P o) {k : Nat} {q : OpP} (hq : l[k]? = some q) : P (askP q) := h (askP q) (List.mem_of_getElem? (by rw [List.getElem?_map, hq]; rfl))
end Go.Proofs.YtaccokghjpcijaaGreatDoor
set_option linter.unusedVariables false
set_option linter.unusedSimpArgs false
namespace Go.Proofs.YtaccokghjpcijaaGreatDoor
open Go Go.RowKit Pp Go.Proofs.YtaccokghjpcijaaGreatDoorW.PrintWords

/-! ### a tree, and its copy -/
theorem copy_ts {k : Nat} {W : World} {F : Nat → Prop} {tb : Nat} {g : St} (h : TS k W F tb g) (hk : k ≤ 1000000) : Calls Tryz.prog 20 #[.pointer (some ⟨tb, 0, none⟩)] W fun e W' => ∃ tc Fc gc, e = .returned (.pointer (some ⟨tc, 0, none⟩)) ∧ TS k W' F tb g ∧ TS k W' Fc tc gc ∧ Sim g gc ∧ Below W.heap.size W W' ∧ ∀ b, Fc b → W.heap.size ≤ b := by
  refine (copy_calls h.tree h.fine.good.inv (by have := h.fine.tot; omega) (by have := h.fine.nx; omega)).mono ?_
  rintro e W' ⟨tc, Fc, gc, rfl, hT, hT', hS, hB, hF⟩
  exact ⟨tc, Fc, gc, rfl, ⟨hT, h.fine⟩, ⟨hT', hS.fine_s h.fine⟩, hS, hB, hF⟩
def Un (F G : Nat → Prop) : Nat → Prop := fun b => F b ∨ G b
/-- Two trees that share nothing. -/
structure Two (w0 : World) (k kc : Nat) (W : World) (F : Nat → Prop) (tb : Nat) (g : St) (Fc : Nat → Prop) (tc : Nat) (gc : St) : Prop where
  a : At w0 k W F tb g
  b : At w0 kc W Fc tc gc
  dis : ∀ x, F x → ¬ Fc x
section
variable {w0 W W' v w' : World} {k kc k' : Nat} {F F' Fc Fc' : Nat → Prop} {tb tc : Nat} {g g' gc gc' : St} {a : Ans} {A : Option Addr} {c : Nat}
theorem Two.start (h : At w0 k W F tb g) (hT : TS k W' F tb g) (hC : TS k W' Fc tc gc) (hB : Below W.heap.size W W') (hF : ∀ b, Fc b → W.heap.size ≤ b) : Two w0 k k W' F tb g Fc tc gc :=
  ⟨h.more hB, ⟨hC, bstep h.below hB, fun b hb => Nat.le_trans h.below.size (hF b hb)⟩, fun x hx hc => by have := h.ts.tree.2 x hx; have := hF x hc; omega⟩
theorem Two.swap (h : Two w0 k kc W F tb g Fc tc gc) : Two w0 kc k W Fc tc gc F tb g := ⟨h.b, h.a, fun x hx hf => h.dis x hf hx⟩
theorem Two.left (h : Two w0 k kc W F tb g Fc tc gc) (hT : TS k' W' F' tb g') (hX : Ext F W F' W') : Two w0 k' kc W' F' tb g' Fc tc gc ∧ Ext (Un F Fc) W (Un F' Fc) W' := by
  have hlt := h.b.ts.tree.2
  have hd : ∀ x, F' x → ¬ Fc x := fun x hx hc => by
    rcases hX.new x hx with e | e
    · exact h.dis x e hc
    · have := hlt x hc; omega
  have ha := h.a.step hT hX
  refine ⟨⟨ha, ⟨h.b.ts.same (fun b hb => hX.fr.block b (hlt b hb) (fun e => h.dis b e hb)) hX.fr.size, ha.below, h.b.low⟩, hd⟩, hX.fr.mono (fun b _ e => .inl e), fun b hb => ?_⟩
  rcases hb with hb | hb
  · rcases hX.new b hb with e | e
    · exact .inl (.inl e)
    · exact .inr e
  · exact .inl (.inr hb)
theorem Two.right (h : Two w0 k kc W F tb g Fc tc gc) (hT : TS k' W' Fc' tc gc') (hX : Ext Fc W Fc' W') : Two w0 k k' W' F tb g Fc' tc gc' ∧ Ext (Un F Fc) W (Un F Fc') W' := by
  obtain ⟨h1, h2⟩ := h.swap.left hT hX
  refine ⟨h1.swap, h2.fr.mono (fun b _ e => e.symm), fun b hb => ?_⟩
  rcases h2.new b hb.symm with e | e
  · exact .inl e.symm
  · exact .inr e
theorem Two.more (h : Two w0 k kc W F tb g Fc tc gc) (hb : Below W.heap.size W W') : Two w0 k kc W' F tb g Fc tc gc := ⟨h.a.more hb, h.b.more hb, h.dis⟩
theorem Two.lt (h : Two w0 k kc W F tb g Fc tc gc) : ∀ b, Un F Fc b → b < W.heap.size := fun b hb => by
  rcases hb with hb | hb
  · exact h.a.ts.tree.2 b hb
  · exact h.b.ts.tree.2 b hb
theorem Two.box {U : Nat → Prop} (hT : Two w0 k kc v F tb g Fc tc gc) (hX : Ext U W (Un F Fc) v) (hS : Strs v (.slice A a.names.length c) a.names) (hA : a.names ≠ [] → ∀ bk o, A = some ⟨bk, o, none⟩ → ¬ Un F Fc bk ∧ bk < v.heap.size)
    (hw : v.alloc (.cells #[.int .i64 a.code, .int .i64 a.n, .string (Go.Proofs.YtaccokghjpcijaaGreatDoor.mk a.data), .slice A a.names.length c] 32) = w') :
    Two w0 k kc w' F tb g Fc tc gc ∧ Ext U W (Un F Fc) w' ∧ Boxed a A c v.heap.size (Un F Fc) w' := by
  have hb : Below v.heap.size v w' := by rw [← hw]; exact balloc (Below.refl _ _)
  refine ⟨hT.more hb, hX.trans (Ext.of_below hb), ?_, fun e => ?_, hS.below hb, fun hne bk o e => ⟨(hA hne bk o e).1, Nat.lt_of_lt_of_le (hA hne bk o e).2 hb.size⟩⟩
  · rw [← hw]; exact heap_alloc_new _ _
  · have := hT.lt _ e; omega
theorem Two.boxL (h : Two w0 k kc W F tb g Fc tc gc) (hT : TS k' v F' tb g') (hX : Ext F W F' v) (hS : Strs v (.slice A a.names.length c) a.names) (hA : a.names ≠ [] → ∀ bk o, A = some ⟨bk, o, none⟩ → ¬ F' bk ∧ W.heap.size ≤ bk ∧ bk < v.heap.size)
    (hw : v.alloc (.cells #[.int .i64 a.code, .int .i64 a.n, .string (Go.Proofs.YtaccokghjpcijaaGreatDoor.mk a.data), .slice A a.names.length c] 32) = w') :
    Two w0 k' kc w' F' tb g' Fc tc gc ∧ Ext (Un F Fc) W (Un F' Fc) v ∧ Ext (Un F Fc) W (Un F' Fc) w' ∧ Boxed a A c v.heap.size (Un F' Fc) w' := by
  obtain ⟨h1, h2⟩ := h.left hT hX
  obtain ⟨h3, h4, h5⟩ := h1.box h2 hS (fun hne bk o e => ⟨fun hu => by
    rcases hu with hu | hu
    · exact (hA hne bk o e).1 hu
    · have := h.b.ts.tree.2 bk hu; have := (hA hne bk o e).2.1; omega, (hA hne bk o e).2.2⟩) hw
  exact ⟨h3, h2, h4, h5⟩
theorem Two.boxR (h : Two w0 k kc W F tb g Fc tc gc) (hT : TS k' v Fc' tc gc') (hX : Ext Fc W Fc' v) (hS : Strs v (.slice A a.names.length c) a.names) (hA : a.names ≠ [] → ∀ bk o, A = some ⟨bk, o, none⟩ → ¬ Fc' bk ∧ W.heap.size ≤ bk ∧ bk < v.heap.size)
    (hw : v.alloc (.cells #[.int .i64 a.code, .int .i64 a.n, .string (Go.Proofs.YtaccokghjpcijaaGreatDoor.mk a.data), .slice A a.names.length c] 32) = w') :
    Two w0 k k' w' F tb g Fc' tc gc' ∧ Ext (Un F Fc) W (Un F Fc') v ∧ Ext (Un F Fc) W (Un F Fc') w' ∧ Boxed a A c v.heap.size (Un F Fc') w' := by
  obtain ⟨h1, h2⟩ := h.right hT hX
  obtain ⟨h3, h4, h5⟩ := h1.box h2 hS (fun hne bk o e => ⟨fun hu => by
    rcases hu with hu | hu
    · have := h.a.ts.tree.2 bk hu; have := (hA hne bk o e).2.1; omega
    · exact (hA hne bk o e).1 hu, (hA hne bk o e).2.2⟩) hw
  exact ⟨h3, h2, h4, h5⟩
end
end Go.Proofs.YtaccokghjpcijaaGreatDoor
set_option linter.unusedVariables false
set_option linter.unusedSimpArgs false
namespace Go.Proofs.YtaccokghjpcijaaGreatDoor
open Go Go.RowKit Pp Go.Proofs.YtaccokghjpcijaaGreatDoorW.PrintWords

/-- A slice of texts that a law holds; the tree doesn't reach it. -/
structure Held (ns : List Str) (A : Option Addr) (c : Nat) (F : Nat → Prop) (W : World) : Prop where
  names : Strs W (.slice A ns.length c) ns
  nN : ns ≠ [] → ∀ bk o, A = some ⟨bk, o, none⟩ → ¬ F bk ∧ bk < W.heap.size
theorem Held.ext {ns : List Str} {A : Option Addr} {c : Nat} {F F' : Nat → Prop} {w w' : World} (h : Held ns A c F w) (hX : Ext F w F' w') : Held ns A c F' w' where
  names := by
    by_cases hne : ns = []
    · subst hne
      exact Strs.nil w' c A
    · exact h.names.kept (fun bk o n c e => by
        cases e
        obtain ⟨h1, h2⟩ := h.nN hne bk o rfl
        exact hX.fr.block bk h2 h1)
  nN := fun hne bk o e => by
    obtain ⟨h1, h2⟩ := h.nN hne bk o e
    exact ⟨hX.notin h2 h1, Nat.lt_of_lt_of_le h2 hX.fr.size⟩
theorem split_held (l : Str) (x : Int) (hx : errV l = x) (hl : l.length ≤ 4398046511104) (w : World) {F : Nat → Prop} (hF : ∀ b, F b → b < w.heap.size) : Calls Tryz.prog 17 #[.string (mk l)] w fun e w' => ∃ A c, e = .returned (.tuple #[.slice A (namesV l).length c, .int .i64 x]) ∧ Held (namesV l) A c F w' ∧ (namesV l = [] → A = none ∧ c = 0) ∧ Below w.heap.size w w' := by
  subst hx
  refine (split_fresh l hl w).mono ?_
  rintro e w' ⟨hB, ⟨hs, rfl⟩ | ⟨ns, v, hs, rfl, hst, hnil, hfr⟩⟩
  · have e1 : namesV l = [] := by unfold namesV; rw [hs]; rfl
    have e2 : errV l = 12 := by unfold errV; rw [hs]; rfl
    rw [e1, e2]
    exact ⟨none, 0, rfl, ⟨Strs.nil w' 0 none, fun h => absurd rfl h⟩, fun _ => ⟨rfl, rfl⟩, hB⟩
  · have e1 : namesV l = ns := by unfold namesV; rw [hs]; rfl
    have e2 : errV l = 0 := by unfold errV; rw [hs]; rfl
    rw [e1, e2]
    obtain ⟨A, c, rfl, _, _⟩ := id hst
    refine ⟨A, c, rfl, ⟨hst, fun hne bk o e => ?_⟩, fun e => by have := hnil e; injection this with h1 h2 h3; exact ⟨h1, h3⟩, hB⟩
    have h1 := hfr bk o _ c (by rw [e])
    exact ⟨fun hf => by have := hF bk hf; omega, names_lt hst hne bk o e⟩
theorem names_cell {a : Ans} {A : Option Addr} {c b m : Nat} {F : Nat → Prop} {w : World} (h : Go.Proofs.YtaccokghjpcijaaGreatDoor.Boxed a A c b F w) (hm : a.names.length = m) : w.cell? ⟨b, 3, none⟩ = some (.slice A m c) := by
  have := h.cells.2.2.2
  rw [hm] at this
  exact this
theorem names_next {a : Ans} {ad : Addr} {c b m i : Nat} {y : Str} {F : Nat → Prop} {w : World} (h : Go.Proofs.YtaccokghjpcijaaGreatDoor.Boxed a (some ad) c b F w) (hm : a.names.length = m) (hy : a.names[i]? = some y) : w.cell? (ad.add i) = some (.string (mk y)) := by
  obtain ⟨hi, _⟩ := List.getElem?_eq_some_iff.1 hy
  obtain ⟨ad', e, hh⟩ := names_at h.names (by omega)
  injection e with e
  subst e
  exact hh i y hy
theorem names_first_at {a : Ans} {ad : Addr} {c b m : Nat} {y : Str} {F : Nat → Prop} {w : World} (h : Go.Proofs.YtaccokghjpcijaaGreatDoor.Boxed a (some ad) c b F w) (hm : a.names.length = m) (hy : a.names[0]? = some y) : w.cell? ad = some (.string (mk y)) := by
  have := names_next h hm hy
  unfold Addr.add at this
  rw [if_pos rfl] at this
  exact this
theorem svals_at {W : World} {bk o : Nat} {ini : List Str} (hcell : ∀ j x, ini[j]? = some x → W.cell? ⟨bk, o + j, none⟩ = some (.string (mk x))) : ∀ j u, (svals ini)[j]? = some u → W.cell? ((⟨bk, o, none⟩ : Addr).add j) = some u := fun j u hj => by
  unfold svals at hj
  rw [List.getElem?_map] at hj
  cases e : ini[j]? with
  | none => rw [e] at hj; cases hj
  | some y =>
    rw [e] at hj
    obtain rfl : Value.string (mk y) = u := by simpa using hj
    rw [← hcell j y e]
    unfold Addr.add
    split
    · rename_i h0; subst h0; rfl
    · rfl
/-- What the law about listed names holds on to, at each world of its round. -/
def Laid (w : World) (k tb : Nat) (g : St) (a1 a2 : Ans) (A1 A2 : Option Addr) (c1 c2 b1 b2 : Nat) (ini all : List Str) (AN A4 : Option Addr) (cN c4 : Nat) (W : World) : Prop :=
  ∃ F, At w k W F tb g ∧ Go.Proofs.YtaccokghjpcijaaGreatDoor.Boxed a1 A1 c1 b1 F W ∧ Go.Proofs.YtaccokghjpcijaaGreatDoor.Boxed a2 A2 c2 b2 F W ∧ Held ini AN cN F W ∧ Held all A4 c4 F W
section
variable {w : World} {k tb : Nat} {g : St} {a1 a2 : Ans} {A1 A2 : Option Addr} {c1 c2 b1 b2 : Nat} {ini all : List Str} {AN A4 : Option Addr} {cN c4 : Nat} {W W' : World}
theorem Laid.below (h : Laid w k tb g a1 a2 A1 A2 c1 c2 b1 b2 ini all AN A4 cN c4 W) (hb : Below W.heap.size W W') : Laid w k tb g a1 a2 A1 A2 c1 c2 b1 b2 ini all AN A4 cN c4 W' := by
  obtain ⟨F, h1, h2, h3, h4, h5⟩ := h
  exact ⟨F, h1.more hb, h2.ext (Ext.of_below hb), h3.ext (Ext.of_below hb), h4.ext (Ext.of_below hb), h5.ext (Ext.of_below hb)⟩
theorem Laid.strs (h : Laid w k tb g a1 a2 A1 A2 c1 c2 b1 b2 ini all AN A4 cN c4 W) {n : Nat} (hn : all.length = n) : Strs W (.slice A4 n c4) all := by
  obtain ⟨F, h1, h2, h3, h4, h5⟩ := h
  subst hn
  exact h5.names
theorem Laid.cell (h : Laid w k tb g a1 a2 A1 A2 c1 c2 b1 b2 ini all AN A4 cN c4 W) {m : Nat} (hm : a1.names.length = m) : W.cell? ⟨b1, 3, none⟩ = some (.slice A1 m c1) := by
  obtain ⟨F, h1, h2, h3, h4, h5⟩ := h
  exact names_cell h2 hm
theorem Laid.next {ad : Addr} (h : Laid w k tb g a1 a2 (some ad) A2 c1 c2 b1 b2 ini all AN A4 cN c4 W) {i : Nat} {y : Str} (hy : a1.names[i]? = some y) : W.cell? (ad.add i) = some (.string (mk y)) := by
  obtain ⟨F, h1, h2, h3, h4, h5⟩ := h
  exact names_next h2 rfl hy
theorem Laid.stat (h : Laid w k tb g a1 a2 A1 A2 c1 c2 b1 b2 ini all AN A4 cN c4 W) (hk : k < 100) {s : Str} (hs : s.length ≤ 1048576) {aq : Ans} (hr : step g ⟨9, s, [], 0, 0, []⟩ = (g, aq)) :
    Calls Tryz.prog 13 #[.pointer (some ⟨tb, 0, none⟩), .agg #[.int .i64 9, .string (mk s), .string ⟨#[]⟩, .int .i64 0, .int .i64 0, .string ⟨#[]⟩]] W fun e W' => ∃ A' c', e = .returned (.agg #[.int .i64 aq.code, .int .i64 aq.n, .string (mk aq.data), .slice A' aq.names.length c']) ∧ Laid w k tb g a1 a2 A1 A2 c1 c2 b1 b2 ini all AN A4 cN c4 W' := by
  obtain ⟨F, h1, h2, h3, h4, h5⟩ := h
  refine (do_at h1.ts hk ⟨9, s, [], 0, 0, []⟩ hs (by simp) (by simp) hr).mono ?_
  rintro e w6 ⟨F', A', c', rfl, hT, hX, hS, hA'⟩
  exact ⟨A', c', rfl, F', h1.step (⟨hT.tree, h1.ts.fine⟩ : TS k w6 F' tb g) hX, h2.ext hX, h3.ext hX, h4.ext hX, h5.ext hX⟩
end
theorem held_new {W : World} {base : Nat} {A : Option Addr} {c : Nat} {ns : List Str} {F : Nat → Prop} (h : Strs W (.slice A ns.length c) ns) (hb : ∀ k, (Value.slice A ns.length c).ownBlock = some k → base ≤ k) (hF : ∀ b, F b → b < base) : Held ns A c F W :=
  ⟨h, fun hne bk o e => ⟨fun hf => by have h1 := hF bk hf; have h2 := hb bk (by rw [e]; rfl); omega, names_lt h hne bk o e⟩⟩
theorem bytesLess_of_lt : ∀ {x y : Str}, x < y → Op.bytesLess x y = true
  | x, [], h => absurd h (List.not_lt_nil x)
  | [], b :: y, _ => rfl
  | a :: x, b :: y, h => by
    rcases List.cons_lt_cons_iff.1 h with h1 | ⟨h1, h2⟩
    · simp [Op.bytesLess, h1]
    · simp [Op.bytesLess, h1, bytesLess_of_lt h2]
theorem geq_false {P : Program} {x y : Str} (h : y < x) (t : TypeId) (w : World) : (binOp .geq t (.string (mk y)) (.string (mk x))).run P w = .ok (.bool false) w := by
  simp [binOp, Op.stringOp, mk_list, bytesLess_of_lt h]
end Go.Proofs.YtaccokghjpcijaaGreatDoor
set_option linter.unusedVariables false
set_option linter.unusedSimpArgs false
namespace Go.Proofs.YtaccokghjpcijaaGreatDoor
open Go Go.RowKit Pp Go.Proofs.YtaccokghjpcijaaGreatDoorW.PrintWords

section
variable {w0 W W' v : World} {k kc k' : Nat} {F F' Fc Fc' : Nat → Prop} {tb tc : Nat} {g g' gc gc' : St} {a : Ans} {A : Option Addr} {c : Nat}
/-- Do on the tree, its answer kept as it came. -/
theorem Two.doL (h : Two w0 k kc W F tb g Fc tc gc) (hT : TS k' v F' tb g') (hX : Ext F W F' v) (hS : Strs v (.slice A a.names.length c) a.names) (hA : a.names ≠ [] → ∀ bk o, A = some ⟨bk, o, none⟩ → ¬ F' bk ∧ W.heap.size ≤ bk ∧ bk < v.heap.size) :
    Two w0 k' kc v F' tb g' Fc tc gc ∧ Held a.names A c (Un F' Fc) v := by
  obtain ⟨h1, h2⟩ := h.left hT hX
  exact ⟨h1, hS, fun hne bk o e => ⟨fun hu => by
    rcases hu with hu | hu
    · exact (hA hne bk o e).1 hu
    · have := h.b.ts.tree.2 bk hu; have := (hA hne bk o e).2.1; omega, (hA hne bk o e).2.2⟩⟩
/-- Do on the copy. -/
theorem Two.doR (h : Two w0 k kc W F tb g Fc tc gc) (hT : TS k' v Fc' tc gc') (hX : Ext Fc W Fc' v) :
    Two w0 k k' v F tb g Fc' tc gc' ∧ ∀ ns A c, Held ns A c (Un F Fc) W → Held ns A c (Un F Fc') v := by
  obtain ⟨h1, h2⟩ := h.right hT hX
  exact ⟨h1, fun ns A c hh => hh.ext h2⟩
end
theorem heap_add {W : World} {b : Nat} {cs : Array Value} {t : TypeId} (h : W.heap[b]? = some (.cells cs t (0, 0))) (k : Nat) (v : Value) (hv : cs[k]? = some v) : W.cell? ((⟨b, 0, none⟩ : Addr).add k) = some v := by
  unfold Addr.add
  split
  · rename_i h0; subst h0; exact heap_cell h 0 v hv
  · show W.cell? ⟨b, 0 + k, none⟩ = some v
    rw [Nat.zero_add]
    exact heap_cell h k v hv
/-- Two ops in a row of their own. -/
theorem small2 {w : World} {b : Nat} {o0 o3 o4 p0 p3 p4 : Int} {o1 o2 o5 p1 p2 p5 : Str} {t : TypeId} (h : w.heap[b]? = some (.cells #[.int .i64 o0, .string (mk o1), .string (mk o2), .int .i64 o3, .int .i64 o4, .string (mk o5), .int .i64 p0, .string (mk p1), .string (mk p2), .int .i64 p3, .int .i64 p4, .string (mk p5)] t (0, 0))) (r : Bool)
    (hr : smallL [⟨o0, o1, o2, o3, o4, o5⟩, ⟨p0, p1, p2, p3, p4, p5⟩] 2 = r) : Calls Tryz.prog 10 #[.slice (some ⟨b, 0, none⟩) 2 2, .int .i64 2] w fun e w' => e = .returned (.bool r) ∧ Below w.heap.size w w' := by
  have hC : Kd.C PModelScripts.k35 w (some ⟨b, 0, none⟩) 2 [(⟨o0, mk o1, mk o2, o3, o4, mk o5⟩ : OpP), ⟨p0, mk p1, mk p2, p3, p4, mk p5⟩] := by
    refine ⟨rfl, by decide, fun _ => ⟨⟨b, 0, none⟩, rfl, fun j p hj => ⟨_, rfl, PModelScripts.k35_mk w p, fun i u hu => ?_⟩⟩⟩
    have hlt : i < 6 := by
      rcases Nat.lt_or_ge i 6 with h | h
      · exact h
      · rw [List.getElem?_eq_none (by simpa using h)] at hu; cases hu
    match j, hj with
    | 0, hj =>
      cases hj
      refine heap_add h _ _ ?_
      match i, hlt, hu with
      | 0, _, hu => cases hu; rfl
      | 1, _, hu => cases hu; rfl
      | 2, _, hu => cases hu; rfl
      | 3, _, hu => cases hu; rfl
      | 4, _, hu => cases hu; rfl
      | 5, _, hu => cases hu; rfl
    | 1, hj =>
      cases hj
      refine heap_add h _ _ ?_
      match i, hlt, hu with
      | 0, _, hu => cases hu; rfl
      | 1, _, hu => cases hu; rfl
      | 2, _, hu => cases hu; rfl
      | 3, _, hu => cases hu; rfl
      | 4, _, hu => cases hu; rfl
      | 5, _, hu => cases hu; rfl
  exact small_calls (some ⟨b, 0, none⟩) 2 [(⟨o0, mk o1, mk o2, o3, o4, mk o5⟩ : OpP), ⟨p0, mk p1, mk p2, p3, p4, mk p5⟩] 2 r w hC (Nat.le_refl 2) (by simp) (by simp only [List.map_cons, List.map_nil, askP_mk]; exact hr)
end Go.Proofs.YtaccokghjpcijaaGreatDoor
