import Derived.Test.YtaccokghjpcijaaGreatDoorMC
set_option linter.unusedVariables false
set_option linter.unusedSimpArgs false
namespace Go.Proofs.YtaccokghjpcijaaGreatDoor
open Go Go.RowKit Pp

/-! ### what paths lead to, plainly -/
theorem look_iff {l : List (Str × Nat)} (hn : (l.map (·.1)).Nodup) {n : Str} {x : Nat} : look l n = some x ↔ (n, x) ∈ l := by
  refine ⟨look_mem, fun h => ?_⟩
  induction l with
  | nil => cases h
  | cons p l ih =>
    rw [List.map_cons, List.nodup_cons] at hn
    unfold look
    rcases List.mem_cons.1 h with h | h
    · rw [← h, if_pos rfl]
    · rw [if_neg (fun e => hn.1 (by rw [e]; exact List.mem_map.2 ⟨_, h, rfl⟩))]
      exact ih hn.2 h
theorem look_none_iff {l : List (Str × Nat)} {n : Str} : look l n = none ↔ n ∉ l.map (·.1) := by
  induction l with
  | nil => simp [look]
  | cons p l ih =>
    unfold look
    by_cases h : p.1 = n
    · rw [if_pos h]; simp [h]
    · rw [if_neg h, ih]; simp [Ne.symm h]
theorem look_del {l : List (Str × Nat)} {m n : Str} : look (del l m) n = if n = m then none else look l n := by
  unfold del
  induction l with
  | nil => simp [look]
  | cons p l ih =>
    rw [List.filter_cons]
    by_cases h : p.1 = m
    · simp only [h, decide_true, Bool.not_true, Bool.false_eq_true, if_false]
      rw [ih]
      by_cases hn : n = m
      · rw [if_pos hn, if_pos hn]
      · rw [if_neg hn, if_neg hn]
        conv => rhs; unfold look
        rw [if_neg (by rw [h]; exact fun e => hn e.symm)]
    · simp only [h, decide_false, Bool.not_false, if_true]
      unfold look
      rw [ih]
      by_cases hp : p.1 = n
      · rw [if_pos hp, if_pos hp, if_neg (by rw [← hp]; exact h)]
      · rw [if_neg hp, if_neg hp]
theorem look_snoc {l : List (Str × Nat)} {m n : Str} {x : Nat} : look (l ++ [(m, x)]) n = match look l n with | some y => some y | none => if n = m then some x else none := by
  induction l with
  | nil =>
    rw [List.nil_append]
    unfold look
    by_cases h : m = n
    · rw [if_pos h]; simp [look, h]
    · rw [if_neg h]; simp [look, Ne.symm h]
  | cons p l ih =>
    rw [List.cons_append]
    unfold look
    by_cases hp : p.1 = n
    · rw [if_pos hp, if_pos hp]
    · rw [if_neg hp, if_neg hp, ih]
def go (g : St) : Nat → List Str → Option Nat
  | i, [] => some i
  | i, n :: ns => match look (entsOf g i) n with
    | none => none
    | some j => go g j ns
theorem go_nil {g : St} {i : Nat} : go g i [] = some i := rfl
theorem go_cons {g : St} {i : Nat} {n : Str} {ns : List Str} : go g i (n :: ns) = (look (entsOf g i) n).bind fun j => go g j ns := by
  conv => lhs; unfold go
  cases look (entsOf g i) n <;> rfl
theorem walk_cons {g : St} {i : Nat} {n : Str} {ns : List Str} : walk g i (n :: ns) = if isDir g i = true then (match look (entsOf g i) n with | none => .error 8 | some j => walk g j ns) else .error 11 := by
  cases he : (g.node i).ents with
  | none =>
    rw [walk_file he, if_neg (by unfold isDir; rw [he]; simp)]
  | some l =>
    have h1 : isDir g i = true := by unfold isDir; rw [he]; rfl
    have h2 : entsOf g i = l := by unfold entsOf; rw [he]; rfl
    rw [if_pos h1, h2]
    cases hl : look l n with
    | none => rw [walk_none he hl]
    | some j => rw [walk_some he hl]
theorem entsOf_file {g : St} {i : Nat} (h : isDir g i = false) : entsOf g i = [] := by
  unfold isDir at h
  unfold entsOf
  cases e : (g.node i).ents with
  | none => rfl
  | some l => rw [e] at h; cases h
theorem go_walk {g : St} : ∀ {ns : List Str} {i x : Nat}, walk g i ns = .ok x ↔ go g i ns = some x
  | [], i, x => by
    show Except.ok i = Except.ok x ↔ some i = some x
    exact ⟨fun h => by cases h; rfl, fun h => by cases h; rfl⟩
  | n :: ns, i, x => by
    rw [walk_cons, go_cons]
    cases hd : isDir g i with
    | false => rw [entsOf_file hd]; simp [look]
    | true =>
      rw [if_pos rfl]
      cases hl : look (entsOf g i) n with
      | none => simp
      | some j => simp only [Option.bind_some]; exact go_walk
theorem go_append {g : St} : ∀ {p q : List Str} {i : Nat}, go g i (p ++ q) = (go g i p).bind fun d => go g d q
  | [], q, i => rfl
  | n :: p, q, i => by
    rw [List.cons_append, go_cons, go_cons]
    cases hl : look (entsOf g i) n with
    | none => rfl
    | some j => simp only [Option.bind_some]; exact go_append
theorem go_snoc {g : St} {p : List Str} {n : Str} {i : Nat} : go g i (p ++ [n]) = (go g i p).bind fun d => look (entsOf g d) n := by
  rw [go_append]
  congr 1
  funext d
  rw [go_cons]
  cases look (entsOf g d) n <;> rfl
theorem walk_append {g : St} : ∀ {p q : List Str} {i : Nat}, walk g i (p ++ q) = match walk g i p with | .ok d => walk g d q | .error e => .error e
  | [], q, i => rfl
  | n :: p, q, i => by
    rw [List.cons_append, walk_cons, walk_cons]
    cases hd : isDir g i with
    | false => rfl
    | true =>
      rw [if_pos rfl, if_pos rfl]
      cases hl : look (entsOf g i) n with
      | none => rfl
      | some j => exact walk_append
theorem go_congr {g g' : St} (h : ∀ i, entsOf g i = entsOf g' i) : ∀ {ns : List Str} {i : Nat}, go g i ns = go g' i ns
  | [], i => rfl
  | n :: ns, i => by
    rw [go_cons, go_cons, h]
    congr 1
    funext j
    exact go_congr h
theorem walk_congr {g g' : St} {N : Nat} (h1 : ∀ i, i < N → isDir g i = isDir g' i) (h2 : ∀ i, i < N → entsOf g i = entsOf g' i) (h3 : ∀ i p, i < N → p ∈ entsOf g i → p.2 < N) : ∀ {ns : List Str} {i : Nat}, i < N → walk g i ns = walk g' i ns
  | [], i, _ => rfl
  | n :: ns, i, hi => by
    rw [walk_cons, walk_cons, h1 i hi, ← h2 i hi]
    cases hd : isDir g' i with
    | false => rfl
    | true =>
      rw [if_pos rfl, if_pos rfl]
      cases hl : look (entsOf g i) n with
      | none => rfl
      | some j => exact walk_congr h1 h2 h3 (h3 i _ hi (look_mem hl))

/-! ### what holds of every tree -/
structure Inv (g : St) : Prop where
  dir0 : isDir g 0 = true
  pos : 0 < g.next
  ent : ∀ i p, p ∈ entsOf g i → p.2 ≠ 0 ∧ p.2 < g.next ∧ okName p.1 = true ∧ (47 : UInt8) ∉ p.1
  nodup : ∀ i, ((entsOf g i).map (·.1)).Nodup
  one : ∀ i j p q, p ∈ entsOf g i → q ∈ entsOf g j → p.2 = q.2 → isDir g p.2 = true → i = j ∧ p.1 = q.1
  beyond : ∀ i, g.next ≤ i → g.node i = ⟨none, [], 0⟩
  small : ∀ i, (g.node i).bytes.length ≤ 16384
theorem go_lt {g : St} (h : Inv g) : ∀ {ns : List Str} {i x : Nat}, i < g.next → go g i ns = some x → x < g.next
  | [], i, x, hi, hg => by cases hg; exact hi
  | n :: ns, i, x, hi, hg => by
    rw [go_cons] at hg
    cases hl : look (entsOf g i) n with
    | none => rw [hl] at hg; cases hg
    | some j => rw [hl] at hg; exact go_lt h (h.ent i _ (look_mem hl)).2.1 hg
theorem go_names {g : St} (h : Inv g) : ∀ {ns : List Str} {i x : Nat}, go g i ns = some x → ∀ p ∈ ns, okName p = true ∧ (47 : UInt8) ∉ p
  | [], i, x, hg => fun p hp => by cases hp
  | n :: ns, i, x, hg => by
    rw [go_cons] at hg
    cases hl : look (entsOf g i) n with
    | none => rw [hl] at hg; cases hg
    | some j =>
      rw [hl] at hg
      intro p hp
      rcases List.mem_cons.1 hp with rfl | hp
      · exact (h.ent i _ (look_mem hl)).2.2
      · exact go_names h hg p hp
theorem go_file {g : St} {i x : Nat} {ns : List Str} (hi : isDir g i = false) (h : go g i ns = some x) : ns = [] := by
  cases ns with
  | nil => rfl
  | cons n ns => rw [go_cons, entsOf_file hi] at h; cases h
theorem snoc_some {g : St} {p : List Str} {n : Str} {x i : Nat} (h : go g i (p ++ [n]) = some x) : ∃ d, go g i p = some d ∧ look (entsOf g d) n = some x := by
  rw [go_snoc] at h
  cases hp : go g i p with
  | none => rw [hp] at h; cases h
  | some d => rw [hp] at h; exact ⟨d, rfl, h⟩
theorem look_dir {g : St} {d x : Nat} {n : Str} (h : look (entsOf g d) n = some x) : isDir g d = true := by
  cases hd : isDir g d with
  | true => rfl
  | false => rw [entsOf_file hd] at h; cases h
/-- A directory has one path. -/
theorem Inv.path {g : St} (h : Inv g) : ∀ (k : Nat) (p q : List Str) (d : Nat), p.length ≤ k → go g 0 p = some d → go g 0 q = some d → isDir g d = true → p = q := by
  have hz : ∀ (q : List Str) (n : Str), go g 0 (q ++ [n]) ≠ some 0 := by
    intro q n e
    obtain ⟨d, _, hl⟩ := snoc_some e
    exact (h.ent d _ (look_mem hl)).1 rfl
  intro k
  induction k with
  | zero =>
    intro p q d hk hp hq hd
    have : p = [] := List.eq_nil_of_length_eq_zero (by omega)
    subst this
    cases hp
    by_cases hq0 : q = []
    · exact hq0.symm
    · obtain ⟨q', n, rfl⟩ := snoc_of hq0
      exact absurd hq (hz q' n)
  | succ k ih =>
    intro p q d hk hp hq hd
    by_cases hp0 : p = []
    · subst hp0
      cases hp
      by_cases hq0 : q = []
      · exact hq0.symm
      · obtain ⟨q', n, rfl⟩ := snoc_of hq0
        exact absurd hq (hz q' n)
    · obtain ⟨p', m, rfl⟩ := snoc_of hp0
      by_cases hq0 : q = []
      · subst hq0
        cases hq
        exact absurd hp (hz p' m)
      · obtain ⟨q', n, rfl⟩ := snoc_of hq0
        obtain ⟨i, hi, hli⟩ := snoc_some hp
        obtain ⟨j, hj, hlj⟩ := snoc_some hq
        obtain ⟨e1, e2⟩ := h.one i j _ _ (look_mem hli) (look_mem hlj) rfl hd
        simp only at e2
        subst e1 e2
        rw [ih p' q' i (by simp at hk; omega) hi hj (look_dir hli)]
theorem Inv.same_path {g : St} (h : Inv g) {p q : List Str} {d : Nat} (hp : go g 0 p = some d) (hq : go g 0 q = some d) (hd : isDir g d = true) : p = q := h.path _ p q d (Nat.le_refl _) hp hq hd

/-! ### the turns, entry by entry -/
theorem ents_addLink {g : St} {x i : Nat} {k : Int} : entsOf (addLink g x k) i = entsOf g i := by
  unfold entsOf addLink
  by_cases h : i = x
  · subst h; simp only [upd_at]
  · simp only [upd_ne _ _ h]
theorem isDir_addLink {g : St} {x i : Nat} {k : Int} : isDir (addLink g x k) i = isDir g i := by
  unfold isDir addLink
  by_cases h : i = x
  · subst h; simp only [upd_at]
  · simp only [upd_ne _ _ h]
theorem bytes_addLink {g : St} {x i : Nat} {k : Int} : ((addLink g x k).node i).bytes = (g.node i).bytes := by
  unfold addLink
  by_cases h : i = x
  · subst h; simp only [upd_at]
  · simp only [upd_ne _ _ h]
theorem ents_addEnt {g : St} {d x i : Nat} {n : Str} : entsOf (addEnt g d n x) i = if i = d then entsOf g d ++ [(n, x)] else entsOf g i := by
  unfold addEnt
  conv => lhs; unfold entsOf
  by_cases h : i = d
  · subst h; simp only [upd_at, if_pos]; rfl
  · simp only [upd_ne _ _ h, if_neg h]; rfl
theorem isDir_addEnt {g : St} {d x i : Nat} {n : Str} (hd : isDir g d = true) : isDir (addEnt g d n x) i = isDir g i := by
  unfold addEnt
  conv => lhs; unfold isDir
  by_cases h : i = d
  · subst h; simp only [upd_at]; rw [hd]; rfl
  · simp only [upd_ne _ _ h]; rfl
theorem bytes_addEnt {g : St} {d x i : Nat} {n : Str} : ((addEnt g d n x).node i).bytes = (g.node i).bytes := by
  unfold addEnt
  by_cases h : i = d
  · subst h; simp only [upd_at]
  · simp only [upd_ne _ _ h]
theorem ents_delEnt {g : St} {d i : Nat} {n : Str} : entsOf (delEnt g d n) i = if i = d then del (entsOf g d) n else entsOf g i := by
  unfold delEnt
  conv => lhs; unfold entsOf
  by_cases h : i = d
  · subst h; simp only [upd_at, if_pos]; rfl
  · simp only [upd_ne _ _ h, if_neg h]; rfl
theorem isDir_delEnt {g : St} {d i : Nat} {n : Str} (hd : isDir g d = true) : isDir (delEnt g d n) i = isDir g i := by
  unfold delEnt
  conv => lhs; unfold isDir
  by_cases h : i = d
  · subst h; simp only [upd_at]; rw [hd]; rfl
  · simp only [upd_ne _ _ h]; rfl
theorem bytes_delEnt {g : St} {d i : Nat} {n : Str} : ((delEnt g d n).node i).bytes = (g.node i).bytes := by
  unfold delEnt
  by_cases h : i = d
  · subst h; simp only [upd_at]
  · simp only [upd_ne _ _ h]
theorem beyond_ents {g : St} (h : Inv g) {i : Nat} (hi : g.next ≤ i) : entsOf g i = [] := by unfold entsOf; rw [h.beyond i hi]; rfl
theorem ents_fresh {g : St} (h : Inv g) {n : Node} (hn : n.ents = none ∨ n.ents = some []) {i : Nat} : entsOf (fresh g n) i = entsOf g i := by
  by_cases hi : i = g.next
  · subst hi
    rw [beyond_ents h (Nat.le_refl _)]
    unfold entsOf fresh
    simp only [upd_at]
    rcases hn with e | e <;> rw [e] <;> rfl
  · unfold entsOf fresh
    simp only [upd_ne _ _ hi]
theorem isDir_fresh {g : St} {n : Node} {i : Nat} (hi : i ≠ g.next) : isDir (fresh g n) i = isDir g i := by
  unfold isDir fresh
  simp only [upd_ne _ _ hi]
theorem isDir_fresh_new {g : St} {n : Node} : isDir (fresh g n) g.next = n.ents.isSome := by
  unfold isDir fresh
  simp only [upd_at]
theorem dir_lt {g : St} (h : Inv g) {i : Nat} (hd : isDir g i = true) : i < g.next := by
  apply Nat.lt_of_not_le
  intro hi
  unfold isDir at hd
  rw [h.beyond i hi] at hd
  cases hd
/-- A new thing that nobody knows. -/
theorem Inv.fresh {g : St} (h : Inv g) {n : Node} (hn : n.ents = none ∨ n.ents = some []) (hb : n.bytes.length ≤ 16384) : Inv (fresh g n) where
  dir0 := by rw [isDir_fresh (by have := h.pos; omega)]; exact h.dir0
  pos := Nat.succ_pos _
  ent i p hp := by
    rw [ents_fresh h hn] at hp
    obtain ⟨h1, h2, h3⟩ := h.ent i p hp
    exact ⟨h1, Nat.lt_succ_of_lt h2, h3⟩
  nodup i := by rw [ents_fresh h hn]; exact h.nodup i
  one i j p q hp hq e hd := by
    rw [ents_fresh h hn] at hp hq
    rw [isDir_fresh (by have := (h.ent i p hp).2.1; omega)] at hd
    exact h.one i j p q hp hq e hd
  beyond i hi := by
    have hi' : g.next + 1 ≤ i := hi
    show upd g.node g.next n i = _
    rw [upd_ne _ _ (by omega)]
    exact h.beyond i (by omega)
  small i := by
    show (upd g.node g.next n i).bytes.length ≤ _
    by_cases hi : i = g.next
    · subst hi; rw [upd_at]; exact hb
    · rw [upd_ne _ _ hi]; exact h.small i
/-- A turn of entries: what was there, but for what is gone; one more, perhaps. -/
theorem Inv.turn {g g' : St} (h : Inv g) {d x : Nat} {n : Str} (hN : g'.next = g.next) (hD : ∀ i, isDir g' i = isDir g i) (hB : ∀ i, (g'.node i).bytes.length ≤ 16384)
    (hsub : ∀ i p, p ∈ entsOf g' i → p ∈ entsOf g i ∨ (i = d ∧ p = (n, x))) (hnd : ∀ i, ((entsOf g' i).map (·.1)).Nodup) (hx : x ≠ 0) (hxn : x < g.next) (hn : okName n = true ∧ (47 : UInt8) ∉ n)
    (hone : isDir g x = true → ∀ i p, p ∈ entsOf g' i → p.2 = x → i = d ∧ p.1 = n) (hbey : ∀ i, g.next ≤ i → g'.node i = ⟨none, [], 0⟩) : Inv g' where
  dir0 := by rw [hD]; exact h.dir0
  pos := by rw [hN]; exact h.pos
  ent i p hp := by
    rw [hN]
    rcases hsub i p hp with hp | ⟨_, rfl⟩
    · exact h.ent i p hp
    · exact ⟨hx, hxn, hn⟩
  nodup := hnd
  one i j p q hp hq e hd := by
    rw [hD] at hd
    by_cases hpx : p.2 = x
    · obtain ⟨h1, h2⟩ := hone (hpx ▸ hd) i p hp hpx
      obtain ⟨h3, h4⟩ := hone (hpx ▸ hd) j q hq (e ▸ hpx)
      exact ⟨h1.trans h3.symm, h2.trans h4.symm⟩
    · rcases hsub i p hp with hp' | ⟨_, rfl⟩
      · rcases hsub j q hq with hq' | ⟨_, rfl⟩
        · exact h.one i j p q hp' hq' e hd
        · exact absurd e hpx
      · exact absurd rfl hpx
  beyond i hi := hbey i (by rw [← hN]; exact hi)
  small := hB
/-- Entries that are gone. -/
theorem Inv.less {g g' : St} (h : Inv g) (hN : g'.next = g.next) (hD : ∀ i, isDir g' i = isDir g i) (hB : ∀ i, (g'.node i).bytes.length ≤ 16384)
    (hsub : ∀ i p, p ∈ entsOf g' i → p ∈ entsOf g i) (hnd : ∀ i, ((entsOf g' i).map (·.1)).Nodup) (hbey : ∀ i, g.next ≤ i → g'.node i = ⟨none, [], 0⟩) : Inv g' where
  dir0 := by rw [hD]; exact h.dir0
  pos := by rw [hN]; exact h.pos
  ent i p hp := by rw [hN]; exact h.ent i p (hsub i p hp)
  nodup := hnd
  one i j p q hp hq e hd := by rw [hD] at hd; exact h.one i j p q (hsub i p hp) (hsub j q hq) e hd
  beyond i hi := hbey i (by rw [← hN]; exact hi)
  small := hB
end Go.Proofs.YtaccokghjpcijaaGreatDoor
set_option linter.unusedVariables false
set_option linter.unusedSimpArgs false
namespace Go.Proofs.YtaccokghjpcijaaGreatDoor
open Go Go.RowKit Pp

theorem leads_go {g : St} {s : Str} {x : Nat} : leads g s = .ok x ↔ ∃ ns, split s = some ns ∧ go g 0 ns = some x := by
  unfold leads
  cases hs : split s with
  | none => simp
  | some ns =>
    simp only [Option.some.injEq, exists_eq_left']
    exact go_walk
theorem free_spec {g : St} {s n : Str} {d : Nat} (hf : free g s = .ok (d, n)) : ∃ ns, split s = some (ns ++ [n]) ∧ go g 0 ns = some d ∧ isDir g d = true ∧ look (entsOf g d) n = none ∧ okName n = true ∧ (47 : UInt8) ∉ n := by
  obtain ⟨p, hp, hk, hl⟩ := free_ok hf
  obtain ⟨h1, h2⟩ := kind_ok hk
  rcases parentV_cases s with ⟨p', n', hp', _, ini, hs, hip⟩ | ⟨hp', _⟩ | ⟨hp', _⟩
  · rw [hp] at hp'
    simp only [Prod.mk.injEq, and_true] at hp'
    obtain ⟨rfl, rfl⟩ := hp'
    obtain ⟨ns, hns, hg⟩ := leads_go.1 h1
    rw [hip] at hns
    cases hns
    have := split_names hs n (by simp)
    exact ⟨ini, hs, hg, h2, hl, this.1, this.2⟩
  · rw [hp] at hp'; simp at hp'
  · rw [hp] at hp'; simp at hp'
theorem leads_ne {g : St} (h : Inv g) {s : Str} {x : Nat} (hl : leads g s = .ok x) : x < g.next := by
  obtain ⟨ns, _, hg⟩ := leads_go.1 hl
  exact go_lt h h.pos hg
theorem links_addLink {g : St} {x i : Nat} {k : Int} : ((addLink g x k).node i).links = if i = x then wrap64 ((g.node x).links + k) else (g.node i).links := by
  unfold addLink
  by_cases h : i = x
  · subst h; simp only [upd_at, if_pos]
  · simp only [upd_ne _ _ h, if_neg h]
theorem links_addEnt {g : St} {d x i : Nat} {n : Str} : ((addEnt g d n x).node i).links = (g.node i).links := by
  unfold addEnt
  by_cases h : i = d
  · subst h; simp only [upd_at]
  · simp only [upd_ne _ _ h]
theorem links_delEnt {g : St} {d i : Nat} {n : Str} : ((delEnt g d n).node i).links = (g.node i).links := by
  unfold delEnt
  by_cases h : i = d
  · subst h; simp only [upd_at]
  · simp only [upd_ne _ _ h]
theorem Inv.cut_less {g : St} (h : Inv g) {d y : Nat} {n : Str} {k : Int} (hd : isDir g d = true) (hy : y < g.next) : Inv (delEnt (addLink g y k) d n) := by
  have hd' : isDir (addLink g y k) d = true := by rw [isDir_addLink]; exact hd
  refine h.less rfl (fun i => by rw [isDir_delEnt hd', isDir_addLink]) (fun i => by rw [bytes_delEnt, bytes_addLink]; exact h.small i) (fun i p hp => ?_) (fun i => ?_) (fun i hi => ?_)
  · rw [ents_delEnt] at hp
    by_cases hid : i = d
    · rw [if_pos hid, ents_addLink] at hp
      subst hid
      exact (List.mem_filter.1 hp).1
    · rw [if_neg hid, ents_addLink] at hp
      exact hp
  · rw [ents_delEnt]
    by_cases hid : i = d
    · rw [if_pos hid, ents_addLink]
      exact (List.filter_sublist.map _).nodup (h.nodup d)
    · rw [if_neg hid, ents_addLink]
      exact h.nodup i
  · unfold delEnt addLink
    have hdl := dir_lt h hd
    simp only [upd_ne _ _ (show i ≠ d by omega), upd_ne _ _ (show i ≠ y by omega)]
    exact h.beyond i hi
theorem nodup_snoc {l : List (Str × Nat)} {n : Str} {x : Nat} (h : (l.map (·.1)).Nodup) (hl : look l n = none) : ((l ++ [(n, x)]).map (·.1)).Nodup := by
  rw [List.map_append, List.nodup_append]
  refine ⟨h, by simp, fun a ha b hb => ?_⟩
  have : b = n := by simpa using hb
  subst this
  exact fun e => look_none_iff.1 hl (e ▸ ha)
/-- What laying an entry turns. -/
theorem ents_layed {g : St} {d x i : Nat} {n : Str} : entsOf (addLink (addEnt g d n x) x 1) i = if i = d then entsOf g d ++ [(n, x)] else entsOf g i := by rw [ents_addLink, ents_addEnt]
theorem Inv.layed {g : St} (h : Inv g) {d x : Nat} {n : Str} (hd : isDir g d = true) (hl : look (entsOf g d) n = none) (hn : okName n = true ∧ (47 : UInt8) ∉ n) (hx : x ≠ 0) (hxn : x < g.next) (hone : isDir g x = true → ∀ i p, p ∈ entsOf g i → p.2 ≠ x) : Inv (addLink (addEnt g d n x) x 1) := by
  refine h.turn (d := d) (x := x) (n := n) rfl (fun i => by rw [isDir_addLink, isDir_addEnt hd]) (fun i => by rw [bytes_addLink, bytes_addEnt]; exact h.small i) (fun i p hp => ?_) (fun i => ?_) hx hxn hn (fun hdx i p hp hpx => ?_) (fun i hi => ?_)
  · rw [ents_layed] at hp
    by_cases hid : i = d
    · rw [if_pos hid] at hp
      subst hid
      rcases List.mem_append.1 hp with hp | hp
      · exact .inl hp
      · exact .inr ⟨rfl, by simpa using hp⟩
    · rw [if_neg hid] at hp
      exact .inl hp
  · rw [ents_layed]
    by_cases hid : i = d
    · rw [if_pos hid]; exact nodup_snoc (h.nodup d) hl
    · rw [if_neg hid]; exact h.nodup i
  · rw [ents_layed] at hp
    by_cases hid : i = d
    · rw [if_pos hid] at hp
      subst hid
      rcases List.mem_append.1 hp with hp | hp
      · exact absurd hpx (hone hdx i p hp)
      · have : p = (n, x) := by simpa using hp
        subst this
        exact ⟨rfl, rfl⟩
    · rw [if_neg hid] at hp
      exact absurd hpx (hone hdx i p hp)
  · unfold addLink addEnt
    have hdl := dir_lt h hd
    simp only [upd_ne _ _ (show i ≠ d by omega), upd_ne _ _ (show i ≠ x by omega)]
    exact h.beyond i hi
theorem Inv.layS {g : St} (h : Inv g) {s : Str} {x : Nat} (hx : x ≠ 0) (hxn : x < g.next) (hone : isDir g x = true → ∀ i p, p ∈ entsOf g i → p.2 ≠ x) : Inv (lay g s x).1 := by
  unfold lay
  cases hf : free g s with
  | error e => exact h
  | ok p =>
    obtain ⟨d, n⟩ := p
    obtain ⟨ns, _, _, hd, hl, hn⟩ := free_spec hf
    exact h.layed hd hl hn hx hxn hone

/-! ### each op -/
theorem leads_fresh {g : St} (h : Inv g) {n : Node} (hn : n.ents = none ∨ n.ents = some []) (s : Str) : leads (fresh g n) s = leads g s := by
  unfold leads
  cases split s with
  | none => rfl
  | some ns =>
    exact (walk_congr (N := g.next) (fun i hi => (isDir_fresh (by omega)).symm) (fun i hi => (ents_fresh h hn).symm) (fun i p hi hp => (h.ent i p hp).2.1) h.pos).symm
theorem kind_fresh {g : St} (h : Inv g) {n : Node} (hn : n.ents = none ∨ n.ents = some []) (s : Str) (d : Bool) : kind (fresh g n) s d = kind g s d := by
  unfold kind
  rw [leads_fresh h hn]
  cases hl : leads g s with
  | error e => rfl
  | ok x =>
    have := leads_ne h hl
    simp only
    rw [isDir_fresh (by omega)]
theorem free_fresh {g : St} (h : Inv g) {n : Node} (hn : n.ents = none ∨ n.ents = some []) (s : Str) : free (fresh g n) s = free g s := by
  unfold free
  rw [kind_fresh h hn]
  cases kind g (parentV s).1 true with
  | error e => rfl
  | ok x =>
    simp only [ents_fresh h hn]
/-- Create, Mkdir. -/
theorem made_cases {g : St} (h : Inv g) (s : Str) {n : Node} (hn : n.ents = none ∨ n.ents = some []) :
    (∃ c, c ≠ 0 ∧ free g s = .error c ∧ made g s n = (g, told c)) ∨
    ∃ d nm, free g s = .ok (d, nm) ∧ made g s n = (addLink (addEnt (fresh g n) d nm g.next) g.next 1, told 0) := by
  unfold made lay
  rw [free_fresh h hn]
  cases hf : free g s with
  | error c =>
    have := free_err hf
    exact .inl ⟨c, this, rfl, by simp only [this, if_false]⟩
  | ok p => exact .inr ⟨p.1, p.2, rfl, by simp⟩
theorem made_inv {g : St} (h : Inv g) (s : Str) {n : Node} (hn : n.ents = none ∨ n.ents = some []) (hb : n.bytes.length ≤ 16384) : Inv (made g s n).1 := by
  rcases made_cases h s hn with ⟨c, _, _, e⟩ | ⟨d, nm, hf, e⟩
  · rw [e]; exact h
  · rw [e]
    obtain ⟨ns, _, _, hd, hl, hnm⟩ := free_spec hf
    have hdl := dir_lt h hd
    exact (h.fresh hn hb).layed (by rw [isDir_fresh (by omega)]; exact hd) (by rw [ents_fresh h hn]; exact hl) hnm (by have := h.pos; omega) (Nat.lt_succ_self _)
      (fun _ i p hp => by rw [ents_fresh h hn] at hp; have := (h.ent i p hp).2.1; omega)
theorem file_ne0 {g : St} (h : Inv g) {x : Nat} (hx : isDir g x = false) : x ≠ 0 := fun e => by rw [e, h.dir0] at hx; cases hx
theorem link_inv {g : St} (h : Inv g) (o : Ask) : Inv (linkS g o).1 := by
  unfold linkS
  cases hk : kind g o.path false with
  | error e => exact h
  | ok x =>
    obtain ⟨h1, h2⟩ := kind_ok hk
    exact h.layS (file_ne0 h h2) (leads_ne h h1) (fun hd => by rw [h2] at hd; cases hd)
/-- A path's last entry. -/
theorem leads_last {g : St} (h : Inv g) {s : Str} {x : Nat} (hl : leads g s = .ok x) (hs : s ≠ [47]) : ∃ p n ns d, parentV s = (p, n, 0) ∧ split s = some (ns ++ [n]) ∧ leads g p = .ok d ∧ go g 0 ns = some d ∧ isDir g d = true ∧ look (entsOf g d) n = some x ∧ x ≠ 0 := by
  obtain ⟨p, n, d, hp, _, hlp, hd, hlk⟩ := leads_parent hl hs
  rcases parentV_cases s with ⟨p', n', hp', _, ini, hsp, hip⟩ | ⟨hp', _⟩ | ⟨hp', _⟩
  · rw [hp] at hp'
    simp only [Prod.mk.injEq, and_true] at hp'
    obtain ⟨rfl, rfl⟩ := hp'
    obtain ⟨ns, hns, hg⟩ := leads_go.1 hlp
    rw [hip] at hns
    cases hns
    exact ⟨p, n, ini, d, hp, hsp, hlp, hg, hd, hlk, (h.ent d _ (look_mem hlk)).1⟩
  · rw [hp] at hp'; simp at hp'
  · rw [hp] at hp'; simp at hp'
theorem cut_inv {g : St} (h : Inv g) {s : Str} {x : Nat} (hl : leads g s = .ok x) (hs : s ≠ [47]) : Inv (cut g s) := by
  obtain ⟨p, n, ns, d, hp, _, hlp, _, hd, hlk, _⟩ := leads_last h hl hs
  rw [cut_eq hp hlp hlk]
  exact h.cut_less hd (leads_ne h hl)
theorem kind_root {g : St} (h : Inv g) {s : Str} {x : Nat} (hk : kind g s false = .ok x) : s ≠ [47] := by
  rintro rfl
  obtain ⟨h1, h2⟩ := kind_ok hk
  rw [leads_root] at h1
  cases h1
  rw [h.dir0] at h2
  cases h2
theorem unlink_inv {g : St} (h : Inv g) (o : Ask) : Inv (unlinkS g o).1 := by
  unfold unlinkS
  cases hk : kind g o.path false with
  | error e => exact h
  | ok x => exact cut_inv h (kind_ok hk).1 (kind_root h hk)
theorem rmdir_inv {g : St} (h : Inv g) (o : Ask) : Inv (rmdirS g o).1 := by
  unfold rmdirS
  by_cases hr : o.path = [47]
  · rw [if_pos hr]; exact h
  · rw [if_neg hr]
    cases hk : kind g o.path true with
    | error e => exact h
    | ok x =>
      simp only
      by_cases he : 0 < (entsOf g x).length
      · rw [if_pos he]; exact h
      · rw [if_neg he]; exact cut_inv h (kind_ok hk).1 hr
/-- A rename that is done: what it turns. -/
structure Moved (g g' : St) (k l : List Str) (x d1 d2 : Nat) (n1 n2 : Str) : Prop where
  p1 : go g 0 k = some d1
  p2 : go g 0 l = some d2
  dir1 : isDir g d1 = true
  dir2 : isDir g d2 = true
  l1 : look (entsOf g d1) n1 = some x
  l2 : look (entsOf g d2) n2 = none
  nm : okName n2 = true ∧ (47 : UInt8) ∉ n2
  x0 : x ≠ 0
  xn : x < g.next
  out : ¬ (k ++ [n1]) <+: (l ++ [n2])
  ents : ∀ i, entsOf g' i = (if i = d1 then del (if i = d2 then entsOf g i ++ [(n2, x)] else entsOf g i) n1 else if i = d2 then entsOf g i ++ [(n2, x)] else entsOf g i)
  dirs : ∀ i, isDir g' i = isDir g i
  bytes : ∀ i, (g'.node i).bytes = (g.node i).bytes
  links : ∀ i, (g'.node i).links = if i = x then wrap64 (wrap64 ((g.node x).links + 1) + -1) else (g.node i).links
  next : g'.next = g.next
  beyond : ∀ i, i ≠ d1 → i ≠ d2 → i ≠ x → g'.node i = g.node i
theorem within_out {a b : Str} {k l : List Str} (hk : split a = some k) (hl : split b = some l) (h : ¬ within a b = true) : ¬ k <+: l := fun e => h (within_iff.2 ⟨k, l, hk, hl, e⟩)
theorem rename_cases {g : St} (h : Inv g) (o : Ask) : (∃ c, c ≠ 0 ∧ renameS g o = (g, told c)) ∨
    ∃ g' k l x d1 d2 n1 n2, renameS g o = (g', told 0) ∧ split o.path = some (k ++ [n1]) ∧ split o.dst = some (l ++ [n2]) ∧ leads g o.path = .ok x ∧ free g o.dst = .ok (d2, n2) ∧ Moved g g' k l x d1 d2 n1 n2 := by
  unfold renameS
  by_cases hr : o.path = [47]
  · rw [if_pos hr]; exact .inl ⟨1, by decide, rfl⟩
  rw [if_neg hr]
  cases hl : leads g o.path with
  | error e => exact .inl ⟨e, by have := leads_err hl; omega, rfl⟩
  | ok x =>
    simp only
    by_cases hw : within o.path o.dst = true
    · rw [if_pos hw]; exact .inl ⟨1, by decide, rfl⟩
    rw [if_neg hw]
    by_cases he : (lay g o.dst x).2 = 0
    · obtain ⟨d2, n2, hf, hd2, hg'⟩ := lay_ok he
      rw [show (lay g o.dst x) = ((lay g o.dst x).1, (lay g o.dst x).2) from rfl]
      simp only
      rw [if_pos he, he, hg']
      obtain ⟨ns, hs2, hp2, _, hl2, hnm⟩ := free_spec hf
      obtain ⟨p, n1, k, d1, hpv, hs1, hlp, hp1, hd1, hl1, hx0⟩ := leads_last h hl hr
      have hlp' : leads (addLink (addEnt g d2 n2 x) x 1) p = .ok d1 := by
        unfold leads at hlp ⊢
        cases hsp : split p with
        | none => rw [hsp] at hlp; cases hlp
        | some q => rw [hsp] at hlp; exact walk_lay hd2 q 0 hlp
      have hl1' : look (entsOf (addLink (addEnt g d2 n2 x) x 1) d1) n1 = some x := look_lay hd2 hl1
      have hxn := leads_ne h hl
      have hd1' : isDir (addLink (addLink (addEnt g d2 n2 x) x 1) x (-1)) d1 = true := by rw [isDir_addLink, isDir_addLink, isDir_addEnt hd2]; exact hd1
      refine .inr ⟨_, k, ns, x, d1, d2, n1, n2, rfl, hs1, hs2, rfl, hf, { p1 := hp1, p2 := hp2, dir1 := hd1, dir2 := hd2, l1 := hl1, l2 := hl2, nm := hnm, x0 := hx0, xn := hxn, out := within_out hs1 hs2 hw, ents := fun i => ?_, dirs := fun i => ?_, bytes := fun i => ?_, links := fun i => ?_, next := ?_, beyond := fun i h1 h2 h3 => ?_ }⟩
      all_goals rw [cut_eq hpv hlp' hl1']
      · rw [ents_delEnt, ents_addLink, ents_layed, ents_addLink, ents_layed]
        by_cases hi1 : i = d1
        · subst hi1
          rw [if_pos rfl, if_pos rfl]
          by_cases hi2 : i = d2
          · subst hi2; rw [if_pos rfl]
          · rw [if_neg hi2, if_neg hi2]
        · rw [if_neg hi1, if_neg hi1]
          by_cases hi2 : i = d2
          · subst hi2; rw [if_pos rfl]
          · rw [if_neg hi2, if_neg hi2]
      · rw [isDir_delEnt hd1', isDir_addLink, isDir_addLink, isDir_addEnt hd2]
      · rw [bytes_delEnt, bytes_addLink, bytes_addLink, bytes_addEnt]
      · rw [links_delEnt, links_addLink, links_addLink, links_addLink, links_addEnt, links_addEnt, if_pos rfl]
        by_cases hix : i = x
        · rw [if_pos hix, if_pos hix]
        · rw [if_neg hix, if_neg hix, if_neg hix]
      · rfl
      · unfold delEnt addLink addEnt
        simp only [upd_ne _ _ h1, upd_ne _ _ h2, upd_ne _ _ h3]
    · rw [show (lay g o.dst x) = ((lay g o.dst x).1, (lay g o.dst x).2) from rfl]
      simp only
      rw [if_neg he, lay_still he]
      exact .inl ⟨_, he, rfl⟩
theorem Moved.sub {g g' : St} {k l : List Str} {x d1 d2 : Nat} {n1 n2 : Str} (m : Moved g g' k l x d1 d2 n1 n2) {i : Nat} {p : Str × Nat} (hp : p ∈ entsOf g' i) : (p ∈ entsOf g i ∨ (i = d2 ∧ p = (n2, x))) ∧ ¬ (i = d1 ∧ p.1 = n1) := by
  rw [m.ents] at hp
  have key : ∀ {q : Str × Nat}, q ∈ (if i = d2 then entsOf g i ++ [(n2, x)] else entsOf g i) → q ∈ entsOf g i ∨ (i = d2 ∧ q = (n2, x)) := by
    intro q hq
    by_cases hi : i = d2
    · rw [if_pos hi] at hq
      rcases List.mem_append.1 hq with hq | hq
      · exact .inl hq
      · exact .inr ⟨hi, by simpa using hq⟩
    · rw [if_neg hi] at hq
      exact .inl hq
  by_cases hi : i = d1
  · rw [if_pos hi] at hp
    obtain ⟨h1, h2⟩ := List.mem_filter.1 hp
    exact ⟨key h1, fun e => by simp [e.2] at h2⟩
  · rw [if_neg hi] at hp
    exact ⟨key hp, fun e => hi e.1⟩
theorem Moved.inv {g g' : St} {k l : List Str} {x d1 d2 : Nat} {n1 n2 : Str} (m : Moved g g' k l x d1 d2 n1 n2) (h : Inv g) : Inv g' := by
  have hnd : ∀ i, ((if i = d2 then entsOf g i ++ [(n2, x)] else entsOf g i).map (·.1)).Nodup := fun i => by
    by_cases hi : i = d2
    · subst hi; rw [if_pos rfl]; exact nodup_snoc (h.nodup i) m.l2
    · rw [if_neg hi]; exact h.nodup i
  refine h.turn (d := d2) (x := x) (n := n2) m.next m.dirs (fun i => by rw [m.bytes]; exact h.small i) (fun i p hp => (m.sub hp).1) (fun i => ?_) m.x0 m.xn m.nm (fun hdx i p hp hpx => ?_) (fun i hi => ?_)
  · rw [m.ents]
    by_cases hi : i = d1
    · rw [if_pos hi]; exact (List.filter_sublist.map _).nodup (hnd i)
    · rw [if_neg hi]; exact hnd i
  · obtain ⟨h1, h2⟩ := m.sub hp
    rcases h1 with h1 | ⟨rfl, rfl⟩
    · exact absurd (h.one i d1 p (n1, x) h1 (look_mem m.l1) hpx (by rw [hpx]; exact hdx)) h2
    · exact ⟨rfl, rfl⟩
  · have e1 := dir_lt h m.dir1
    have e2 := dir_lt h m.dir2
    have e3 := m.xn
    rw [m.beyond i (by omega) (by omega) (by omega)]
    exact h.beyond i hi
theorem rename_inv {g : St} (h : Inv g) (o : Ask) : Inv (renameS g o).1 := by
  rcases rename_cases h o with ⟨c, _, e⟩ | ⟨g', k, l, x, d1, d2, n1, n2, e, _, _, _, _, m⟩
  · rw [e]; exact h
  · rw [e]; exact m.inv h
/-- A file's bytes turn. -/
def setB (g : St) (x : Nat) (s : Str) : St := ⟨upd g.node x { g.node x with bytes := s }, g.next⟩
theorem setB_ents {g : St} {x i : Nat} {s : Str} : ((setB g x s).node i).ents = (g.node i).ents := by
  unfold setB
  by_cases h : i = x
  · subst h; simp only [upd_at]
  · simp only [upd_ne _ _ h]
theorem setB_links {g : St} {x i : Nat} {s : Str} : ((setB g x s).node i).links = (g.node i).links := by
  unfold setB
  by_cases h : i = x
  · subst h; simp only [upd_at]
  · simp only [upd_ne _ _ h]
theorem setB_bytes {g : St} {x i : Nat} {s : Str} : ((setB g x s).node i).bytes = if i = x then s else (g.node i).bytes := by
  unfold setB
  by_cases h : i = x
  · subst h; simp only [upd_at, if_pos]
  · simp only [upd_ne _ _ h, if_neg h]
theorem setB_entsOf {g : St} {x i : Nat} {s : Str} : entsOf (setB g x s) i = entsOf g i := by unfold entsOf; rw [setB_ents]
theorem setB_isDir {g : St} {x i : Nat} {s : Str} : isDir (setB g x s) i = isDir g i := by unfold isDir; rw [setB_ents]
theorem setB_inv {g : St} (h : Inv g) {x : Nat} {s : Str} (hx : x < g.next) (hs : s.length ≤ 16384) : Inv (setB g x s) := by
  refine h.less rfl (fun i => setB_isDir) (fun i => ?_) (fun i p hp => by rwa [setB_entsOf] at hp) (fun i => by rw [setB_entsOf]; exact h.nodup i) (fun i hi => ?_)
  · rw [setB_bytes]
    split
    · exact hs
    · exact h.small i
  · unfold setB
    simp only [upd_ne _ _ (show i ≠ x by omega)]
    exact h.beyond i hi
theorem walk_ents {g g' : St} (h : ∀ i, (g'.node i).ents = (g.node i).ents) : ∀ {ns : List Str} {i : Nat}, walk g' i ns = walk g i ns
  | [], i => rfl
  | n :: ns, i => by
    have h1 : isDir g' i = isDir g i := by unfold isDir; rw [h]
    have h2 : entsOf g' i = entsOf g i := by unfold entsOf; rw [h]
    rw [walk_cons, walk_cons, h1, h2]
    cases isDir g i with
    | false => rfl
    | true =>
      rw [if_pos rfl, if_pos rfl]
      cases look (entsOf g i) n with
      | none => rfl
      | some j => exact walk_ents h
theorem leads_ents {g g' : St} (h : ∀ i, (g'.node i).ents = (g.node i).ents) (s : Str) : leads g' s = leads g s := by
  unfold leads
  cases split s with
  | none => rfl
  | some ns => exact walk_ents h
theorem kind_ents {g g' : St} (h : ∀ i, (g'.node i).ents = (g.node i).ents) (s : Str) (d : Bool) : kind g' s d = kind g s d := by
  unfold kind
  rw [leads_ents h]
  cases leads g s with
  | error e => rfl
  | ok x =>
    have h1 : isDir g' x = isDir g x := by unfold isDir; rw [h]
    simp only [h1]
theorem sized_length {s : Str} {n : Nat} : (sizedS s n).length = n := by
  unfold sizedS
  split
  · rw [List.length_take]; omega
  · rw [List.length_append, List.length_replicate]; omega
def wrote (s : Str) (off : Nat) (data : Str) : Str := (sizedS s (max s.length (off + data.length))).take off ++ data ++ (sizedS s (max s.length (off + data.length))).drop (off + data.length)
theorem wrote_length {s data : Str} {off : Nat} : (wrote s off data).length = max s.length (off + data.length) := by
  unfold wrote
  rw [List.length_append, List.length_append, List.length_take, List.length_drop, sized_length]
  omega
theorem write_cases {g : St} (o : Ask) : (∃ c, writeS g o = (g, told c) ∧ ((∃ x, kind g o.path false = .ok x ∧ (o.off < 0 ∧ c = 1 ∨ 16384 - (o.data.length : Int) < o.off ∧ c = 13)) ∨ kind g o.path false = .error c)) ∨
    ∃ x, kind g o.path false = .ok x ∧ 0 ≤ o.off ∧ o.off.toNat + o.data.length ≤ 16384 ∧ writeS g o = (if o.data = [] then g else setB g x (wrote (g.node x).bytes o.off.toNat o.data), ⟨0, o.data.length, [], []⟩) := by
  unfold writeS
  cases hk : kind g o.path false with
  | error c => exact .inl ⟨c, rfl, .inr rfl⟩
  | ok x =>
    simp only
    by_cases h1 : o.off < 0
    · rw [if_pos h1]; exact .inl ⟨1, rfl, .inl ⟨x, rfl, .inl ⟨h1, rfl⟩⟩⟩
    rw [if_neg h1]
    by_cases h2 : 16384 - (o.data.length : Int) < o.off
    · rw [if_pos h2]; exact .inl ⟨13, rfl, .inl ⟨x, rfl, .inr ⟨h2, rfl⟩⟩⟩
    rw [if_neg h2]
    refine .inr ⟨x, rfl, by omega, by omega, ?_⟩
    by_cases h3 : o.data = []
    · rw [if_pos h3, if_pos h3, h3]; rfl
    · rw [if_neg h3, if_neg h3]; rfl
theorem write_inv {g : St} (h : Inv g) (o : Ask) : Inv (writeS g o).1 := by
  rcases write_cases (g := g) o with ⟨c, e, _⟩ | ⟨x, hk, h1, h2, e⟩
  · rw [e]; exact h
  · rw [e]
    simp only
    split
    · exact h
    · exact setB_inv h (leads_ne h (kind_ok hk).1) (by rw [wrote_length]; have := h.small x; omega)
theorem trunc_inv {g : St} (h : Inv g) (o : Ask) : Inv (truncS g o).1 := by
  unfold truncS
  cases hk : kind g o.path false with
  | error c => exact h
  | ok x =>
    simp only
    split
    · exact h
    split
    · exact h
    · exact setB_inv h (leads_ne h (kind_ok hk).1) (by rw [sized_length]; omega)
theorem read_same (g : St) (o : Ask) : (readS g o).1 = g := by
  unfold readS
  split
  · rfl
  · split <;> rfl
theorem stat_same (g : St) (o : Ask) : (statS g o).1 = g := by
  unfold statS
  split
  · rfl
  · split <;> rfl
theorem list_same (g : St) (o : Ask) : (listS g o).1 = g := by
  unfold listS
  split <;> rfl
theorem step_inv {g : St} (h : Inv g) (o : Ask) : Inv (step g o).1 := by
  unfold step
  split
  · exact made_inv h _ (.inl rfl) (by simp)
  split
  · exact made_inv h _ (.inr rfl) (by simp)
  split
  · exact link_inv h o
  split
  · exact unlink_inv h o
  split
  · exact rmdir_inv h o
  split
  · exact rename_inv h o
  split
  · rw [read_same]; exact h
  split
  · exact write_inv h o
  split
  · exact trunc_inv h o
  split
  · rw [stat_same]; exact h
  split
  · rw [list_same]; exact h
  · exact h
/-- A new tree. -/
def newS : St := ⟨fun i => if i = 0 then ⟨some [], [], 0⟩ else ⟨none, [], 0⟩, 1⟩
theorem new_ents (i : Nat) : entsOf newS i = [] := by
  unfold entsOf newS
  by_cases h : i = 0
  · simp [h]
  · simp [h]
theorem new_inv : Inv newS where
  dir0 := rfl
  pos := Nat.one_pos
  ent i p hp := by rw [new_ents] at hp; cases hp
  nodup i := by rw [new_ents]; simp
  one i j p q hp := by rw [new_ents] at hp; cases hp
  beyond i hi := by
    have : i ≠ 0 := by have : 1 ≤ i := hi; omega
    unfold newS
    simp [this]
  small i := by
    unfold newS
    by_cases h : i = 0 <;> simp [h]
def run (g : St) : List Ask → St
  | [] => g
  | o :: os => run (step g o).1 os
theorem run_inv {g : St} (h : Inv g) : ∀ (os : List Ask), Inv (run g os)
  | [] => h
  | o :: os => run_inv (step_inv h o) os
end Go.Proofs.YtaccokghjpcijaaGreatDoor
set_option linter.unusedVariables false
set_option linter.unusedSimpArgs false
namespace Go.Proofs.YtaccokghjpcijaaGreatDoor
open Go Go.RowKit Pp

/-! ### paths, and what they lead to, behind each turn -/
theorem snoc_inj {α : Type} {p q : List α} {m n : α} : p ++ [m] = q ++ [n] ↔ p = q ∧ m = n := by
  constructor
  · intro h
    have := List.append_inj' h rfl
    exact ⟨this.1, by simpa using this.2⟩
  · rintro ⟨rfl, rfl⟩; rfl
theorem prefix_snoc {α : Type} {p q : List α} {m : α} : p <+: q ++ [m] ↔ p <+: q ∨ p = q ++ [m] := by
  constructor
  · rintro ⟨r, hr⟩
    by_cases h : r = []
    · subst h; rw [List.append_nil] at hr; exact .inr hr
    · have e : r = r.dropLast ++ [r.getLast h] := (List.dropLast_concat_getLast h).symm
      rw [e, ← List.append_assoc] at hr
      exact .inl ⟨_, (snoc_inj.1 hr).1⟩
  · rintro (h | h)
    · exact h.trans (List.prefix_append _ _)
    · rw [h]; exact List.prefix_refl _
theorem snoc_induct {P : List Str → Prop} (h0 : P []) (h1 : ∀ q m, P q → P (q ++ [m])) : ∀ ms, P ms := by
  have key : ∀ (k : Nat) (ms : List Str), ms.length = k → P ms := by
    intro k
    induction k with
    | zero => intro ms h; rw [List.eq_nil_of_length_eq_zero h]; exact h0
    | succ k ih =>
      intro ms h
      have hne : ms ≠ [] := fun e => by rw [e] at h; simp at h
      obtain ⟨q, m, rfl⟩ := snoc_of hne
      exact h1 q m (ih q (by simpa using h))
  exact fun ms => key _ ms rfl
theorem go_none_prefix {g : St} {p q : List Str} (h : p <+: q) (hp : go g 0 p = none) : go g 0 q = none := by
  obtain ⟨r, rfl⟩ := h
  rw [go_append, hp]
  rfl
/-- One entry more, of what has none itself. -/
theorem go_add {g g' : St} (h : Inv g) {d x : Nat} {n : Str} {p : List Str} (hents : ∀ i, entsOf g' i = if i = d then entsOf g d ++ [(n, x)] else entsOf g i) (hp : go g 0 p = some d) (hd : isDir g d = true) (hl : look (entsOf g d) n = none) (hxe : entsOf g x = []) (hxd : x ≠ d) :
    ∀ ms, go g' 0 ms = if ms = p ++ [n] then some x else go g 0 ms := by
  have hpn : go g 0 (p ++ [n]) = none := by rw [go_snoc, hp]; exact hl
  refine snoc_induct ?_ ?_
  · rw [if_neg (by simp)]; rfl
  · intro q m ih
    rw [go_snoc, ih]
    by_cases hq : q = p ++ [n]
    · rw [if_pos hq]
      have hne : ¬ q ++ [m] = p ++ [n] := fun e => by rw [hq] at e; have := congrArg List.length e; simp at this
      rw [if_neg hne]
      simp only [Option.bind_some]
      rw [hents, if_neg hxd, hxe, go_none_prefix (p := p ++ [n]) (by rw [hq]; exact List.prefix_append _ _) hpn]
      rfl
    · rw [if_neg hq]
      cases hg : go g 0 q with
      | none =>
        rw [if_neg (fun e => by rw [(snoc_inj.1 e).1, hp] at hg; cases hg), go_snoc, hg]
        rfl
      | some i =>
        simp only [Option.bind_some]
        rw [hents]
        by_cases hi : i = d
        · subst hi
          have hqp : q = p := h.same_path hg hp hd
          subst hqp
          rw [if_pos rfl, look_snoc]
          by_cases hm : m = n
          · subst hm; rw [hl, if_pos rfl, if_pos rfl]
          · rw [if_neg (fun e => hm (snoc_inj.1 e).2), go_snoc, hg]
            simp only [Option.bind_some]
            cases hlm : look (entsOf g i) m with
            | none => simp [hm]
            | some y => rfl
        · rw [if_neg hi, if_neg (fun e => hi (by rw [(snoc_inj.1 e).1, hp] at hg; exact (Option.some.inj hg).symm)), go_snoc, hg]
          rfl
/-- One entry less. -/
theorem go_less {g g' : St} (h : Inv g) {d : Nat} {n : Str} {p : List Str} (hents : ∀ i, entsOf g' i = if i = d then del (entsOf g d) n else entsOf g i) (hp : go g 0 p = some d) (hd : isDir g d = true) :
    ∀ ms, go g' 0 ms = if (p ++ [n]) <+: ms then none else go g 0 ms := by
  refine snoc_induct ?_ ?_
  · rw [if_neg (by simp)]; rfl
  · intro q m ih
    rw [go_snoc, ih]
    by_cases hq : (p ++ [n]) <+: q
    · rw [if_pos hq, if_pos (prefix_snoc.2 (.inl hq))]; rfl
    · rw [if_neg hq]
      cases hg : go g 0 q with
      | none =>
        rw [go_snoc, hg]
        simp
      | some i =>
        simp only [Option.bind_some]
        rw [hents]
        by_cases hi : i = d
        · subst hi
          have hqp : q = p := h.same_path hg hp hd
          subst hqp
          rw [if_pos rfl, look_del]
          by_cases hm : m = n
          · subst hm; rw [if_pos rfl, if_pos (List.prefix_refl _)]
          · rw [if_neg hm, if_neg (fun e => by
              rcases prefix_snoc.1 e with e | e
              · exact hq e
              · exact hm (snoc_inj.1 e).2.symm), go_snoc, hg]
            rfl
        · rw [if_neg hi, if_neg (fun e => by
            rcases prefix_snoc.1 e with e | e
            · exact hq e
            · rw [← (snoc_inj.1 e).1, hp] at hg
              exact hi (Option.some.inj hg).symm), go_snoc, hg]
          rfl
/-- What is renamed. -/
theorem Moved.go {g g' : St} {k l : List Str} {x d1 d2 : Nat} {n1 n2 : Str} (m : Moved g g' k l x d1 d2 n1 n2) (h : Inv g) :
    ∀ ms, go g' 0 ms = if (k ++ [n1]) <+: ms then none else if (l ++ [n2]) <+: ms then go g x (ms.drop (l ++ [n2]).length) else go g 0 ms := by
  have hfrom : Go.Proofs.YtaccokghjpcijaaGreatDoor.go g 0 (k ++ [n1]) = some x := by rw [go_snoc, m.p1]; exact m.l1
  have hto : Go.Proofs.YtaccokghjpcijaaGreatDoor.go g 0 (l ++ [n2]) = none := by rw [go_snoc, m.p2]; exact m.l2
  have hsub : ∀ r i, Go.Proofs.YtaccokghjpcijaaGreatDoor.go g x r = some i → Go.Proofs.YtaccokghjpcijaaGreatDoor.go g 0 (k ++ [n1] ++ r) = some i := fun r i hr => by rw [go_append, hfrom]; exact hr
  have hdrop : ∀ r : List Str, (l ++ [n2] ++ r).drop (l ++ [n2]).length = r := fun r => by rw [List.drop_left]
  -- below what is renamed lies neither parent
  have hne1 : ∀ r, Go.Proofs.YtaccokghjpcijaaGreatDoor.go g x r ≠ some d1 := fun r hr => by
    have := h.same_path (hsub r d1 hr) m.p1 m.dir1
    have := congrArg List.length this
    simp at this
  have hne2 : ∀ r, Go.Proofs.YtaccokghjpcijaaGreatDoor.go g x r ≠ some d2 := fun r hr => by
    have := h.same_path (hsub r d2 hr) m.p2 m.dir2
    exact m.out ((List.prefix_append (k ++ [n1]) r).trans (by rw [this]; exact List.prefix_append _ _))
  refine snoc_induct ?_ ?_
  · rw [if_neg (by simp), if_neg (by simp)]; rfl
  · intro q a ih
    rw [go_snoc, ih]
    by_cases hq : (k ++ [n1]) <+: q
    · rw [if_pos hq, if_pos (prefix_snoc.2 (.inl hq))]; rfl
    rw [if_neg hq]
    by_cases hq2 : (l ++ [n2]) <+: q
    · have h1 : ¬ (k ++ [n1]) <+: q ++ [a] := fun e => by
        rcases prefix_snoc.1 e with e | e
        · exact hq e
        · -- k = q: then what is renamed lies below its own new place
          obtain ⟨e1, _⟩ := snoc_inj.1 e
          have : Go.Proofs.YtaccokghjpcijaaGreatDoor.go g 0 q = none := go_none_prefix hq2 hto
          rw [← e1, m.p1] at this
          cases this
      obtain ⟨r, rfl⟩ := hq2
      rw [if_pos (List.prefix_append _ _), if_neg h1, if_pos (by rw [List.append_assoc]; exact List.prefix_append _ _), hdrop, List.append_assoc, hdrop, go_snoc]
      cases hg : Go.Proofs.YtaccokghjpcijaaGreatDoor.go g x r with
      | none => rfl
      | some i =>
        simp only [Option.bind_some]
        have e1 : i ≠ d1 := fun e => hne1 r (by rw [← e]; exact hg)
        have e2 : i ≠ d2 := fun e => hne2 r (by rw [← e]; exact hg)
        rw [m.ents, if_neg e1, if_neg e2]
    · rw [if_neg hq2]
      cases hg : Go.Proofs.YtaccokghjpcijaaGreatDoor.go g 0 q with
      | none =>
        have h2 : ¬ (l ++ [n2]) <+: q ++ [a] := fun e => by
          rcases prefix_snoc.1 e with e | e
          · exact hq2 e
          · rw [← (snoc_inj.1 e).1, m.p2] at hg; cases hg
        rw [if_neg h2, go_snoc, hg]
        simp
      | some i =>
        simp only [Option.bind_some]
        rw [m.ents]
        have hk : (k ++ [n1]) <+: q ++ [a] → i = d1 ∧ a = n1 := fun e => by
          rcases prefix_snoc.1 e with e | e
          · exact absurd e hq
          · obtain ⟨e1, e2⟩ := snoc_inj.1 e
            rw [← e1, m.p1] at hg
            exact ⟨(Option.some.inj hg).symm, e2.symm⟩
        have hl : (l ++ [n2]) <+: q ++ [a] → i = d2 ∧ a = n2 := fun e => by
          rcases prefix_snoc.1 e with e | e
          · exact absurd e hq2
          · obtain ⟨e1, e2⟩ := snoc_inj.1 e
            rw [← e1, m.p2] at hg
            exact ⟨(Option.some.inj hg).symm, e2.symm⟩
        have hold : Go.Proofs.YtaccokghjpcijaaGreatDoor.go g 0 (q ++ [a]) = look (entsOf g i) a := by rw [go_snoc, hg]; rfl
        have hmid : look (if i = d2 then entsOf g i ++ [(n2, x)] else entsOf g i) a = if (l ++ [n2]) <+: q ++ [a] then Go.Proofs.YtaccokghjpcijaaGreatDoor.go g x ((q ++ [a]).drop (l ++ [n2]).length) else look (entsOf g i) a := by
          by_cases hi2 : i = d2
          · subst hi2
            have hql : q = l := h.same_path hg m.p2 m.dir2
            subst hql
            rw [if_pos rfl, look_snoc]
            by_cases ha2 : a = n2
            · subst ha2
              rw [m.l2, if_pos (List.prefix_refl _), if_pos rfl]
              simp [Go.Proofs.YtaccokghjpcijaaGreatDoor.go]
            · rw [if_neg (fun e => ha2 (hl e).2)]
              cases look (entsOf g i) a with
              | none => simp [ha2]
              | some y => rfl
          · have hn : ¬ (l ++ [n2]) <+: q ++ [a] := fun e => hi2 (hl e).1
            rw [if_neg hi2, if_neg hn]
        by_cases hi1 : i = d1
        · subst hi1
          have hqk : q = k := h.same_path hg m.p1 m.dir1
          subst hqk
          rw [if_pos rfl, look_del, hmid, hold]
          by_cases ha : a = n1
          · subst ha; rw [if_pos rfl, if_pos (List.prefix_refl _)]
          · have hn : ¬ (q ++ [n1]) <+: q ++ [a] := fun e => ha (hk e).2
            rw [if_neg ha, if_neg hn]
        · have hn : ¬ (k ++ [n1]) <+: q ++ [a] := fun e => hi1 (hk e).1
          rw [if_neg hi1, if_neg hn, hmid, hold]
end Go.Proofs.YtaccokghjpcijaaGreatDoor
set_option linter.unusedVariables false
set_option linter.unusedSimpArgs false
namespace Go.Proofs.YtaccokghjpcijaaGreatDoor
open Go Go.RowKit Pp

/-! ### a tree as a list of its paths -/
abbrev Ents := List (List Str × Nat)
def cnt (E : Ents) (x : Nat) : Nat := E.countP fun e => decide (e.2 = x)
structure Rel (g : St) (E : Ents) : Prop where
  mem : ∀ ns x, (ns, x) ∈ E ↔ ns ≠ [] ∧ go g 0 ns = some x
  nodup : (E.map (·.1)).Nodup
  links : ∀ x, (g.node x).links = (cnt E x : Nat)
def addE (E : Ents) (ns : List Str) (x : Nat) : Ents := E ++ [(ns, x)]
def delE (E : Ents) (ns : List Str) : Ents := E.filter fun e => !decide (e.1 = ns)
def movK (k l ns : List Str) : List Str := if k <+: ns then l ++ ns.drop k.length else ns
def movE (E : Ents) (k l : List Str) : Ents := E.map fun e => (movK k l e.1, e.2)
theorem nodup_on {α β : Type} {f : α → β} : ∀ {L : List α}, L.Nodup → (∀ a b, a ∈ L → b ∈ L → f a = f b → a = b) → (L.map f).Nodup
  | [], _, _ => by simp
  | a :: L, hn, hi => by
    rw [List.nodup_cons] at hn
    rw [List.map_cons, List.nodup_cons]
    refine ⟨fun hm => ?_, nodup_on hn.2 (fun x y hx hy => hi x y (List.mem_cons_of_mem _ hx) (List.mem_cons_of_mem _ hy))⟩
    obtain ⟨b, hb, e⟩ := List.mem_map.1 hm
    exact hn.1 (hi b a (List.mem_cons_of_mem _ hb) List.mem_cons_self e ▸ hb)
theorem cnt_le (E : Ents) (x : Nat) : cnt E x ≤ E.length := List.countP_le_length
theorem cnt_add (E : Ents) (ns : List Str) (x y : Nat) : cnt (addE E ns x) y = cnt E y + if y = x then 1 else 0 := by
  unfold cnt addE
  rw [List.countP_append, List.countP_singleton]
  by_cases h : y = x
  · subst h; simp
  · simp [h, Ne.symm h]
theorem key_mem {E : Ents} {ns : List Str} : ns ∈ E.map (·.1) ↔ ∃ x, (ns, x) ∈ E := by
  rw [List.mem_map]
  constructor
  · rintro ⟨⟨a, b⟩, h, rfl⟩; exact ⟨b, h⟩
  · rintro ⟨x, h⟩; exact ⟨_, h, rfl⟩
theorem cnt_del {E : Ents} (hn : (E.map (·.1)).Nodup) {ns : List Str} {x : Nat} (h : (ns, x) ∈ E) (y : Nat) : cnt E y = cnt (delE E ns) y + if y = x then 1 else 0 := by
  induction E with
  | nil => cases h
  | cons e E ih =>
    rw [List.map_cons, List.nodup_cons] at hn
    unfold cnt delE at ih ⊢
    rw [List.filter_cons, List.countP_cons]
    rcases List.mem_cons.1 h with h | h
    · subst h
      simp only [decide_true, Bool.not_true, Bool.false_eq_true, if_false]
      have : E.filter (fun e => !decide (e.1 = ns)) = E := by
        rw [List.filter_eq_self]
        intro a ha
        have : a.1 ≠ ns := fun e => hn.1 (e ▸ List.mem_map.2 ⟨a, ha, rfl⟩)
        simp [this]
      rw [this]
      by_cases hy : y = x
      · simp [hy]
      · simp [hy, Ne.symm hy]
    · have hne : e.1 ≠ ns := fun e1 => hn.1 (by rw [e1]; exact key_mem.2 ⟨x, h⟩)
      simp only [hne, decide_false, Bool.not_false, if_true]
      rw [List.countP_cons, ih hn.2 h]
      omega
theorem cnt_mov (E : Ents) (k l : List Str) (y : Nat) : cnt (movE E k l) y = cnt E y := by
  unfold cnt movE
  rw [List.countP_map]
  rfl
theorem del_length (E : Ents) (ns : List Str) : (delE E ns).length ≤ E.length := List.length_filter_le _ _
theorem mov_length (E : Ents) (k l : List Str) : (movE E k l).length = E.length := by unfold movE; rw [List.length_map]
theorem add_length (E : Ents) (ns : List Str) (x : Nat) : (addE E ns x).length = E.length + 1 := by unfold addE; simp
theorem Rel.noKey {g : St} {E : Ents} (r : Rel g E) {ns : List Str} (h : go g 0 ns = none) : ns ∉ E.map (·.1) := fun hm => by
  obtain ⟨x, hx⟩ := key_mem.1 hm
  rw [((r.mem ns x).1 hx).2] at h
  cases h
theorem Rel.same {g g' : St} {E : Ents} (r : Rel g E) (h : ∀ i, entsOf g' i = entsOf g i) (hl : ∀ i, (g'.node i).links = (g.node i).links) : Rel g' E :=
  ⟨fun ns x => by rw [go_congr h]; exact r.mem ns x, r.nodup, fun x => by rw [hl]; exact r.links x⟩
theorem Rel.add {g g' : St} {E : Ents} (r : Rel g E) (h : Inv g) (hE : E.length ≤ 4611686018427387904) {d x : Nat} {n : Str} {p : List Str} (hents : ∀ i, entsOf g' i = if i = d then entsOf g d ++ [(n, x)] else entsOf g i) (hp : go g 0 p = some d) (hd : isDir g d = true)
    (hl : look (entsOf g d) n = none) (hxe : entsOf g x = []) (hxd : x ≠ d) (hlk : ∀ i, (g'.node i).links = if i = x then wrap64 ((g.node x).links + 1) else (g.node i).links) : Rel g' (addE E (p ++ [n]) x) := by
  have hg := go_add h hents hp hd hl hxe hxd
  have hpn : go g 0 (p ++ [n]) = none := by rw [go_snoc, hp]; exact hl
  refine ⟨fun ns y => ?_, ?_, fun y => ?_⟩
  · unfold addE
    rw [hg, List.mem_append, r.mem, List.mem_singleton]
    by_cases hns : ns = p ++ [n]
    · subst hns
      rw [if_pos rfl, hpn]
      constructor
      · rintro (⟨_, h⟩ | h)
        · cases h
        · cases h
          exact ⟨by simp, rfl⟩
      · rintro ⟨_, h⟩
        cases h
        exact .inr rfl
    · rw [if_neg hns]
      simp [hns]
  · unfold addE
    rw [List.map_append, List.nodup_append]
    refine ⟨r.nodup, by simp, fun a ha b hb => ?_⟩
    have : b = p ++ [n] := by simpa using hb
    subst this
    exact fun e => r.noKey hpn (e ▸ ha)
  · rw [hlk, cnt_add]
    have h1 := r.links x
    have h2 := cnt_le E x
    by_cases hy : y = x
    · subst hy
      rw [if_pos rfl, if_pos rfl, h1]
      unfold wrap64
      omega
    · rw [if_neg hy, if_neg hy, r.links y]; rfl
theorem Rel.less {g g' : St} {E : Ents} (r : Rel g E) (h : Inv g) (hE : E.length ≤ 4611686018427387904) {d x : Nat} {n : Str} {p : List Str} (hents : ∀ i, entsOf g' i = if i = d then del (entsOf g d) n else entsOf g i) (hp : go g 0 p = some d) (hd : isDir g d = true)
    (hl : look (entsOf g d) n = some x) (hxe : entsOf g x = []) (hlk : ∀ i, (g'.node i).links = if i = x then wrap64 ((g.node x).links + -1) else (g.node i).links) : Rel g' (delE E (p ++ [n])) := by
  have hg := go_less h hents hp hd
  have hpn : go g 0 (p ++ [n]) = some x := by rw [go_snoc, hp]; exact hl
  have hin : (p ++ [n], x) ∈ E := (r.mem _ _).2 ⟨by simp, hpn⟩
  refine ⟨fun ns y => ?_, ?_, fun y => ?_⟩
  · unfold delE
    rw [hg, List.mem_filter, r.mem]
    by_cases hns : ns = p ++ [n]
    · subst hns
      rw [if_pos (List.prefix_refl _)]
      simp
    · by_cases hpre : (p ++ [n]) <+: ns
      · rw [if_pos hpre]
        obtain ⟨q, rfl⟩ := hpre
        rw [go_append, hpn]
        cases q with
        | nil => exact absurd (List.append_nil _) hns
        | cons a q => simp [go_cons, hxe, look]
      · rw [if_neg hpre]
        simp [hns]
  · exact (List.filter_sublist.map _).nodup r.nodup
  · rw [hlk]
    have h1 := r.links x
    have h2 := cnt_le E x
    have h3 := cnt_del r.nodup hin y
    by_cases hy : y = x
    · subst hy
      rw [if_pos rfl] at h3 ⊢
      rw [h1]
      unfold wrap64
      omega
    · rw [if_neg hy] at h3 ⊢
      rw [r.links y]
      omega
theorem Rel.mov {g g' : St} {E : Ents} (r : Rel g E) (h : Inv g) (hE : E.length ≤ 4611686018427387904) {k l : List Str} {x d1 d2 : Nat} {n1 n2 : Str} (m : Moved g g' k l x d1 d2 n1 n2) : Rel g' (movE E (k ++ [n1]) (l ++ [n2])) := by
  have hg := m.go h
  have hfrom : go g 0 (k ++ [n1]) = some x := by rw [go_snoc, m.p1]; exact m.l1
  have hto : go g 0 (l ++ [n2]) = none := by rw [go_snoc, m.p2]; exact m.l2
  have hkl : ∀ q, ¬ (k ++ [n1]) <+: (l ++ [n2]) ++ q ∨ go g x q = none := fun q => by
    by_cases hpre : (k ++ [n1]) <+: (l ++ [n2]) ++ q
    · refine .inr ?_
      -- then l ++ [n2] is a prefix of k ++ [n1], which leads somewhere
      rcases List.prefix_or_prefix_of_prefix hpre (List.prefix_append (l ++ [n2]) q) with e | e
      · exact absurd e m.out
      · rw [go_none_prefix e hto] at hfrom; cases hfrom
    · exact .inl hpre
  refine ⟨fun ns y => ?_, ?_, fun y => ?_⟩
  · unfold movE
    rw [hg, List.mem_map]
    constructor
    · rintro ⟨⟨a, b⟩, hab, e⟩
      obtain ⟨ha, hgo⟩ := (r.mem a b).1 hab
      simp only [Prod.mk.injEq] at e
      obtain ⟨e1, rfl⟩ := e
      unfold movK at e1
      by_cases hpre : (k ++ [n1]) <+: a
      · rw [if_pos hpre] at e1
        subst e1
        obtain ⟨q, rfl⟩ := hpre
        rw [List.drop_left]
        rw [go_append, hfrom] at hgo
        have hgo' : go g x q = some b := hgo
        refine ⟨by simp, ?_⟩
        rcases hkl q with e | e
        · rw [if_neg e, if_pos (List.prefix_append _ _), List.drop_left, hgo']
        · rw [e] at hgo'; cases hgo'
      · rw [if_neg hpre] at e1
        subst e1
        refine ⟨ha, ?_⟩
        have hn : ¬ (l ++ [n2]) <+: a := fun e => by rw [go_none_prefix e hto] at hgo; cases hgo
        rw [if_neg hpre, if_neg hn, hgo]
    · rintro ⟨hne, hgo⟩
      by_cases hpre : (k ++ [n1]) <+: ns
      · rw [if_pos hpre] at hgo; cases hgo
      · rw [if_neg hpre] at hgo
        by_cases hp2 : (l ++ [n2]) <+: ns
        · rw [if_pos hp2] at hgo
          obtain ⟨q, rfl⟩ := hp2
          rw [List.drop_left] at hgo
          refine ⟨((k ++ [n1]) ++ q, y), (r.mem _ _).2 ⟨by simp, by rw [go_append, hfrom]; exact hgo⟩, ?_⟩
          unfold movK
          simp only [List.prefix_append, if_true]
          rw [List.drop_left]
        · rw [if_neg hp2] at hgo
          refine ⟨(ns, y), (r.mem _ _).2 ⟨hne, hgo⟩, ?_⟩
          unfold movK
          simp only [hpre, if_false]
  · unfold movE
    rw [List.map_map]
    have e : ((fun e : List Str × Nat => e.1) ∘ fun e : List Str × Nat => (movK (k ++ [n1]) (l ++ [n2]) e.1, e.2)) = movK (k ++ [n1]) (l ++ [n2]) ∘ fun e : List Str × Nat => e.1 := rfl
    rw [e, ← List.map_map]
    refine nodup_on r.nodup (fun a b ha hb e => ?_)
    obtain ⟨xa, ha⟩ := key_mem.1 ha
    obtain ⟨xb, hb⟩ := key_mem.1 hb
    have hla := ((r.mem a xa).1 ha).2
    have hlb := ((r.mem b xb).1 hb).2
    unfold movK at e
    by_cases h1 : (k ++ [n1]) <+: a
    · by_cases h2 : (k ++ [n1]) <+: b
      · rw [if_pos h1, if_pos h2] at e
        obtain ⟨q1, rfl⟩ := h1
        obtain ⟨q2, rfl⟩ := h2
        rw [List.drop_left, List.drop_left] at e
        rw [List.append_cancel_left e]
      · rw [if_pos h1, if_neg h2] at e
        rw [go_none_prefix (p := l ++ [n2]) (q := b) (by rw [← e]; exact List.prefix_append _ _) hto] at hlb
        cases hlb
    · by_cases h2 : (k ++ [n1]) <+: b
      · rw [if_neg h1, if_pos h2] at e
        rw [go_none_prefix (p := l ++ [n2]) (q := a) (by rw [e]; exact List.prefix_append _ _) hto] at hla
        cases hla
      · rw [if_neg h1, if_neg h2] at e
        exact e
  · rw [m.links, cnt_mov]
    have h1 := r.links x
    have h2 := cnt_le E x
    by_cases hy : y = x
    · subst hy
      rw [if_pos rfl, h1]
      unfold wrap64
      omega
    · rw [if_neg hy, r.links y]

/-! ### each op, on the list -/
theorem Rel.made {g : St} {E : Ents} (r : Rel g E) (h : Inv g) (hE : E.length ≤ 4611686018427387904) {s nm : Str} {n : Node} {d : Nat} (hn : n.ents = none ∨ n.ents = some []) (hl0 : n.links = 0) (hf : free g s = .ok (d, nm)) :
    ∃ ns, split s = some ns ∧ Rel (addLink (addEnt (fresh g n) d nm g.next) g.next 1) (addE E ns g.next) := by
  obtain ⟨ns, hs, hp, hd, hl, hnm⟩ := free_spec hf
  have hdl := dir_lt h hd
  refine ⟨ns ++ [nm], hs, r.add h hE (fun i => ?_) hp hd hl (beyond_ents h (Nat.le_refl _)) (by omega) (fun i => ?_)⟩
  · rw [ents_layed, ents_fresh h hn, ents_fresh h hn]
  · have hfl : ∀ i, ((fresh g n).node i).links = (g.node i).links := fun i => by
      unfold fresh
      by_cases hi : i = g.next
      · subst hi; simp only [upd_at]; rw [hl0, h.beyond _ (Nat.le_refl _)]
      · simp only [upd_ne _ _ hi]
    rw [links_addLink, links_addEnt, links_addEnt, hfl, hfl]
theorem Rel.layed {g : St} {E : Ents} (r : Rel g E) (h : Inv g) (hE : E.length ≤ 4611686018427387904) {s nm : Str} {d x : Nat} (hx : isDir g x = false) (hf : free g s = .ok (d, nm)) :
    ∃ ns, split s = some ns ∧ Rel (addLink (addEnt g d nm x) x 1) (addE E ns x) := by
  obtain ⟨ns, hs, hp, hd, hl, hnm⟩ := free_spec hf
  refine ⟨ns ++ [nm], hs, r.add h hE (fun i => ents_layed) hp hd hl (entsOf_file hx) (fun e => by rw [e, hd] at hx; cases hx) (fun i => ?_)⟩
  rw [links_addLink, links_addEnt, links_addEnt]
theorem Rel.cut {g : St} {E : Ents} (r : Rel g E) (h : Inv g) (hE : E.length ≤ 4611686018427387904) {s : Str} {x : Nat} (hl : leads g s = .ok x) (hs : s ≠ [47]) (hxe : entsOf g x = []) : ∃ ns, split s = some ns ∧ Rel (cut g s) (delE E ns) := by
  obtain ⟨p, n, ns, d, hp, hs, hlp, hg, hd, hlk, hx0⟩ := leads_last h hl hs
  refine ⟨ns ++ [n], hs, r.less h hE (fun i => ?_) hg hd hlk hxe (fun i => ?_)⟩
  · rw [cut_eq hp hlp hlk, ents_delEnt, ents_addLink, ents_addLink]
  · rw [cut_eq hp hlp hlk, links_delEnt, links_addLink]
theorem step_rel {g : St} {E : Ents} (r : Rel g E) (h : Inv g) (hE : E.length ≤ 4611686018427387904) (o : Ask) : ∃ E', Rel (step g o).1 E' ∧ E'.length ≤ E.length + 1 := by
  have hmade : ∀ n : Node, n.ents = none ∨ n.ents = some [] → n.links = 0 → ∃ E', Rel (made g o.path n).1 E' ∧ E'.length ≤ E.length + 1 := fun n hn hl0 => by
    rcases made_cases h o.path hn with ⟨c, _, _, e⟩ | ⟨d, nm, hf, e⟩
    · rw [e]; exact ⟨E, r, by omega⟩
    · obtain ⟨ns, _, hr⟩ := r.made h hE hn hl0 hf
      rw [e]; exact ⟨_, hr, by rw [add_length]; omega⟩
  unfold step
  split
  · exact hmade _ (.inl rfl) rfl
  split
  · exact hmade _ (.inr rfl) rfl
  split
  · unfold linkS
    cases hk : kind g o.path false with
    | error e => exact ⟨E, r, by omega⟩
    | ok x =>
      unfold lay
      cases hf : free g o.dst with
      | error e => simp only [hf]; exact ⟨E, r, by omega⟩
      | ok p =>
        obtain ⟨ns, _, hr⟩ := r.layed h hE (kind_ok hk).2 (d := p.1) (nm := p.2) hf
        simp only [hf]
        exact ⟨_, hr, by rw [add_length]; omega⟩
  split
  · unfold unlinkS
    cases hk : kind g o.path false with
    | error e => exact ⟨E, r, by omega⟩
    | ok x =>
      obtain ⟨ns, _, hr⟩ := r.cut h hE (kind_ok hk).1 (kind_root h hk) (entsOf_file (kind_ok hk).2)
      exact ⟨_, hr, by have := del_length E ns; omega⟩
  split
  · unfold rmdirS
    by_cases hr : o.path = [47]
    · rw [if_pos hr]; exact ⟨E, r, by omega⟩
    · rw [if_neg hr]
      cases hk : kind g o.path true with
      | error e => exact ⟨E, r, by omega⟩
      | ok x =>
        simp only
        by_cases he : 0 < (entsOf g x).length
        · rw [if_pos he]; exact ⟨E, r, by omega⟩
        · rw [if_neg he]
          obtain ⟨ns, _, hr'⟩ := r.cut h hE (kind_ok hk).1 hr (List.eq_nil_of_length_eq_zero (by omega))
          exact ⟨_, hr', by have := del_length E ns; omega⟩
  split
  · rcases rename_cases h o with ⟨c, _, e⟩ | ⟨g', k, l, x, d1, d2, n1, n2, e, _, _, _, _, m⟩
    · rw [e]; exact ⟨E, r, by omega⟩
    · rw [e]; exact ⟨_, r.mov h hE m, by rw [mov_length]; omega⟩
  split
  · rw [read_same]; exact ⟨E, r, by omega⟩
  split
  · rcases write_cases (g := g) o with ⟨c, e, _⟩ | ⟨x, hk, h1, h2, e⟩
    · rw [e]; exact ⟨E, r, by omega⟩
    · rw [e]
      simp only
      split
      · exact ⟨E, r, by omega⟩
      · exact ⟨E, r.same (fun i => setB_entsOf) (fun i => setB_links), by omega⟩
  split
  · unfold truncS
    cases hk : kind g o.path false with
    | error c => exact ⟨E, r, by omega⟩
    | ok x =>
      simp only
      split
      · exact ⟨E, r, by omega⟩
      split
      · exact ⟨E, r, by omega⟩
      · exact ⟨E, r.same (fun i => setB_entsOf (g := g)) (fun i => setB_links (g := g)), by omega⟩
  split
  · rw [stat_same]; exact ⟨E, r, by omega⟩
  split
  · rw [list_same]; exact ⟨E, r, by omega⟩
  · exact ⟨E, r, by omega⟩
theorem new_rel : Rel newS [] := ⟨fun ns x => by
  cases ns with
  | nil => simp
  | cons n ns => rw [go_cons, new_ents]; simp [look], by simp, fun x => by unfold newS; by_cases h : x = 0 <;> simp [h, cnt]⟩
/-- What holds of a tree behind at most k ops. -/
structure Good (k : Nat) (g : St) : Prop where
  inv : Inv g
  rel : ∃ E, Rel g E ∧ E.length ≤ k
theorem new_good : Good 0 newS := ⟨new_inv, [], new_rel, Nat.le_refl _⟩
theorem Good.step {k : Nat} {g : St} (h : Good k g) (hk : k ≤ 1000000) (o : Ask) : Good (k + 1) (step g o).1 := by
  obtain ⟨hi, E, hr, hE⟩ := h
  obtain ⟨E', hr', hE'⟩ := step_rel hr hi (by omega) o
  exact ⟨step_inv hi o, E', hr', by omega⟩
theorem Good.mono {k k' : Nat} {g : St} (h : Good k g) (hk : k ≤ k') : Good k' g := by
  obtain ⟨hi, E, hr, hE⟩ := h
  exact ⟨hi, E, hr, by omega⟩
theorem Good.links {k : Nat} {g : St} (h : Good k g) (x : Nat) : 0 ≤ (g.node x).links ∧ (g.node x).links ≤ k := by
  obtain ⟨hi, E, hr, hE⟩ := h
  have := cnt_le E x
  rw [hr.links]
  omega
end Go.Proofs.YtaccokghjpcijaaGreatDoor
