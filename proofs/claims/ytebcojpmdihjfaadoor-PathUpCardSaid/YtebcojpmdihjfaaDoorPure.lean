import Derived.Lib.Bytealg
import Derived.Lib.IndexLaws
import Derived.Lib.Join
import Derived.Lib.Strings
set_option linter.unusedVariables false
set_option linter.unusedSimpArgs false
namespace Go.Proofs.YtebcojpmdihjfaaDoor.Pp
open Go

abbrev Str := List UInt8

/-- A text, parted at each '/'. -/
def parts : Str → List Str
  | [] => [[]]
  | c :: r => if c = 47 then [] :: parts r else match parts r with
    | [] => [[c]]
    | h :: t => (c :: h) :: t
/-- May a text be a name? -/
def okName (l : Str) : Bool := decide (l ≠ [] ∧ l ≠ [46] ∧ l ≠ [46, 46] ∧ l.length ≤ 255 ∧ (0 : UInt8) ∉ l)
/-- The names of a path, if it is one. -/
def split (l : Str) : Option (List Str) :=
  match l with
  | [] => none
  | c :: r => if c = 47 then (if r = [] then some [] else if (parts r).all okName then some (parts r) else none) else none
/-- Names, joined. -/
def join (ns : List Str) : Str := 47 :: Lib.join ns [47]

theorem parts_ne (l : Str) : parts l ≠ [] := by
  cases l with
  | nil => simp [parts]
  | cons c r =>
    unfold parts
    split
    · simp
    · split <;> simp
theorem parts_cons (l : Str) : ∃ h t, parts l = h :: t := by
  cases e : parts l with
  | nil => exact absurd e (parts_ne l)
  | cons h t => exact ⟨h, t, rfl⟩
/-- Up to the first '/', and behind it. -/
theorem parts_none {l : Str} (h : (47 : UInt8) ∉ l) : parts l = [l] := by
  induction l with
  | nil => rfl
  | cons c r ih =>
    have hc : c ≠ 47 := fun e => h (by rw [e]; exact List.mem_cons_self)
    have hr : (47 : UInt8) ∉ r := fun e => h (List.mem_cons_of_mem _ e)
    unfold parts
    rw [if_neg hc, ih hr]
theorem parts_some {x r : Str} (h : (47 : UInt8) ∉ x) : parts (x ++ 47 :: r) = x :: parts r := by
  induction x with
  | nil =>
    show parts (47 :: r) = _
    rw [parts, if_pos rfl]
  | cons c x ih =>
    have hc : c ≠ 47 := fun e => h (by rw [e]; exact List.mem_cons_self)
    have hr : (47 : UInt8) ∉ x := fun e => h (List.mem_cons_of_mem _ e)
    show parts (c :: (x ++ 47 :: r)) = _
    rw [parts, if_neg hc, ih hr]
theorem parts_clean (l : Str) : ∀ p ∈ parts l, (47 : UInt8) ∉ p := by
  induction l with
  | nil =>
    intro p hp
    have : p = [] := by simpa [parts] using hp
    rw [this]
    simp
  | cons c r ih =>
    intro p hp
    unfold parts at hp
    by_cases hc : c = 47
    · rw [if_pos hc] at hp
      rcases List.mem_cons.1 hp with rfl | hp
      · simp
      · exact ih p hp
    · rw [if_neg hc] at hp
      obtain ⟨h, t, e⟩ := parts_cons r
      rw [e] at hp ih
      rcases List.mem_cons.1 hp with rfl | hp
      · intro hm
        rcases List.mem_cons.1 hm with e1 | hm
        · exact hc e1.symm
        · exact ih h List.mem_cons_self hm
      · exact ih p (List.mem_cons_of_mem _ hp)
/-- The sum of the parts' lengths, a '/' between each two. -/
theorem parts_length (l : Str) : (parts l).length ≤ l.length + 1 := by
  induction l with
  | nil => simp [parts]
  | cons c r ih =>
    unfold parts
    by_cases hc : c = 47
    · rw [if_pos hc]; simp; omega
    · rw [if_neg hc]
      obtain ⟨h, t, e⟩ := parts_cons r
      rw [e] at ih ⊢
      simp at ih ⊢
      omega
theorem parts_mem_length (l : Str) : ∀ p ∈ parts l, p.length ≤ l.length := by
  induction l with
  | nil => intro p hp; have : p = [] := by simpa [parts] using hp
           rw [this]; simp
  | cons c r ih =>
    intro p hp
    unfold parts at hp
    by_cases hc : c = 47
    · rw [if_pos hc] at hp
      rcases List.mem_cons.1 hp with rfl | hp
      · simp
      · have := ih p hp; simp; omega
    · rw [if_neg hc] at hp
      obtain ⟨h, t, e⟩ := parts_cons r
      rw [e] at hp ih
      rcases List.mem_cons.1 hp with rfl | hp
      · have := ih h List.mem_cons_self; simp; omega
      · have := ih p (List.mem_cons_of_mem _ hp); simp; omega
theorem join_parts (l : Str) : Lib.join (parts l) [47] = l := by
  induction l with
  | nil => simp [parts, Lib.join_one]
  | cons c r ih =>
    unfold parts
    by_cases hc : c = 47
    · rw [if_pos hc]
      obtain ⟨h, t, e⟩ := parts_cons r
      rw [e] at ih ⊢
      rw [Lib.join_cons] at ih ⊢
      subst hc
      rw [← ih]
      simp [Lib.joinTail]
    · rw [if_neg hc]
      obtain ⟨h, t, e⟩ := parts_cons r
      rw [e] at ih ⊢
      simp only
      rw [Lib.join_cons] at ih ⊢
      rw [List.cons_append, ih]
theorem parts_join {x : Str} {t : List Str} (h : ∀ p ∈ x :: t, (47 : UInt8) ∉ p) : parts (Lib.join (x :: t) [47]) = x :: t := by
  induction t generalizing x with
  | nil => rw [Lib.join_one, parts_none (h x List.mem_cons_self)]
  | cons y t ih =>
    have e : Lib.join (x :: y :: t) [47] = x ++ 47 :: Lib.join (y :: t) [47] := by
      rw [Lib.join_cons, Lib.join_cons]
      simp [Lib.joinTail]
    rw [e, parts_some (h x List.mem_cons_self), ih (fun p hp => h p (List.mem_cons_of_mem _ hp))]

/-! ### names -/
theorem okName_clean_nil : okName [] = false := by simp [okName]
theorem okName_iff (l : Str) : okName l = true ↔ l ≠ [] ∧ l ≠ [46] ∧ l ≠ [46, 46] ∧ l.length ≤ 255 ∧ (0 : UInt8) ∉ l := by
  unfold okName; rw [decide_eq_true_eq]

/-! ### split -/
theorem split_nil : split [] = none := rfl
theorem split_root : split [47] = some [] := by simp [split]
theorem split_other {c : UInt8} {r : Str} (h : c ≠ 47) : split (c :: r) = none := by simp [split, h]
theorem split_ok {r : Str} (h : r ≠ []) (ha : (parts r).all okName = true) : split (47 :: r) = some (parts r) := by
  show (if (47 : UInt8) = 47 then (if r = [] then some [] else if (parts r).all okName then some (parts r) else none) else none) = _
  rw [if_pos rfl, if_neg h, if_pos ha]
theorem split_bad {r : Str} (h : r ≠ []) (ha : (parts r).all okName = false) : split (47 :: r) = none := by
  show (if (47 : UInt8) = 47 then (if r = [] then some [] else if (parts r).all okName then some (parts r) else none) else none) = _
  rw [if_pos rfl, if_neg h, ha]; rfl
theorem split_some {l : Str} {ns : List Str} (h : split l = some ns) : (l = [47] ∧ ns = []) ∨ (∃ r, l = 47 :: r ∧ r ≠ [] ∧ (parts r).all okName = true ∧ ns = parts r) := by
  cases l with
  | nil => cases h
  | cons c r =>
    replace h : (if c = 47 then (if r = [] then some [] else if (parts r).all okName then some (parts r) else none) else none) = some ns := h
    by_cases hc : c = 47
    · rw [if_pos hc] at h
      subst hc
      by_cases hr : r = []
      · rw [if_pos hr] at h
        injection h with h
        exact .inl ⟨by rw [hr], h.symm⟩
      · rw [if_neg hr] at h
        cases ha : (parts r).all okName with
        | true =>
          rw [ha] at h
          injection h with h
          exact .inr ⟨r, rfl, hr, ha, h.symm⟩
        | false =>
          rw [ha] at h
          cases h
    · rw [if_neg hc] at h
      cases h
theorem join_split {l : Str} {ns : List Str} (h : split l = some ns) : join ns = l := by
  rcases split_some h with ⟨rfl, rfl⟩ | ⟨r, rfl, _, _, rfl⟩
  · rfl
  · unfold join; rw [join_parts]
theorem split_names {l : Str} {ns : List Str} (h : split l = some ns) : ∀ p ∈ ns, okName p = true ∧ (47 : UInt8) ∉ p := by
  rcases split_some h with ⟨rfl, rfl⟩ | ⟨r, rfl, _, ha, rfl⟩
  · intro p hp; cases hp
  · intro p hp
    exact ⟨List.all_eq_true.1 ha p hp, parts_clean r p hp⟩
theorem split_join {ns : List Str} (h : ∀ p ∈ ns, okName p = true ∧ (47 : UInt8) ∉ p) : split (join ns) = some ns := by
  cases ns with
  | nil => rfl
  | cons x t =>
    have e := parts_join (x := x) (t := t) (fun p hp => (h p hp).2)
    have hne : Lib.join (x :: t) [47] ≠ [] := by
      intro he
      rw [he] at e
      have hx : x = [] := by
        have := congrArg List.head? e
        simp [parts] at this
        exact this
      have := (h x List.mem_cons_self).1
      rw [hx, okName_clean_nil] at this
      cases this
    have ha : (parts (Lib.join (x :: t) [47])).all okName = true := by
      rw [e, List.all_eq_true]
      exact fun p hp => (h p hp).1
    unfold join
    rw [split_ok hne ha, e]
theorem split_inj {a b : Str} {ns : List Str} (h : split a = some ns) (h' : split b = some ns) : a = b := by rw [← join_split h, join_split h']
theorem split_length {l : Str} {ns : List Str} (h : split l = some ns) : ns.length ≤ l.length := by
  rcases split_some h with ⟨rfl, rfl⟩ | ⟨r, rfl, _, _, rfl⟩
  · simp
  · have := parts_length r
    simp
    omega

/-! ### parent, within -/
def parent (l : Str) : Option (Str × Str) :=
  match split l with
  | none => none
  | some ns => match ns.getLast? with
    | none => none
    | some n => some (join ns.dropLast, n)
def within (a b : Str) : Bool :=
  match split a, split b with
  | some k, some l => k.isPrefixOf l
  | _, _ => false
end Go.Proofs.YtebcojpmdihjfaaDoor.Pp
