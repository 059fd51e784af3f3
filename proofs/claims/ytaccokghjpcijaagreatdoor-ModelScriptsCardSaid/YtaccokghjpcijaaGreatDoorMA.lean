import Derived.Lib.Bytealg
import Derived.Lib.IndexLaws
import Derived.Lib.Join
import Derived.Lib.Strings
import Derived.RangeFuncBox
import Derived.RangeFuncLeaves
import Derived.RangeFuncCalls
import Derived.RangeFuncWrites
import Derived.Shelf.Abstract
import Derived.WalkKit
import Derived.OwnWalkIn
import Derived.TacticsInMore
import Derived.LoopNIn
import Derived.LoopIn
import Derived.Maps.AppendAt
import Derived.Test.YtaccokghjpcijaaGreatDoorShelf
import Derived.Lib.Hide
import Derived.Test.YtaccokghjpcijaaGreatDoorWWords
import Derived.Deep.RegionHeld3
import Derived.Deep.DeepFit
set_option linter.unusedVariables false
set_option linter.unusedSimpArgs false
namespace Go.Proofs.YtaccokghjpcijaaGreatDoor.Pp
open Go

abbrev Str := List UInt8

/-- A text, parted at each '/'. -/
def parts : Str → List Str
  | [] => [[]]
  | c :: r => if c = 47 then [] :: parts r else match parts r with
    | [] => [[c]]
    | h :: t => (c :: h) :: t
/-- May a text be a name? -/
def okName (l : Str) : Bool := decide (l ≠ [] ∧ l ≠ [46] ∧ l ≠ [46, 46] ∧ l.length ≤ 255 ∧ (0 : UInt8) ∉ l)
/-- The names of a path, if it is one. -/
def split (l : Str) : Option (List Str) :=
  match l with
  | [] => none
  | c :: r => if c = 47 then (if r = [] then some [] else if (parts r).all okName then some (parts r) else none) else none
/-- Names, joined. -/
def join (ns : List Str) : Str := 47 :: Lib.join ns [47]

theorem parts_ne (l : Str) : parts l ≠ [] := by
  cases l with
  | nil => simp [parts]
  | cons c r =>
    unfold parts
    split
    · simp
    · split <;> simp
theorem parts_cons (l : Str) : ∃ h t, parts l = h :: t := by
  cases e : parts l with
  | nil => exact absurd e (parts_ne l)
  | cons h t => exact ⟨h, t, rfl⟩
/-- Up to the first '/', and behind it. -/
theorem parts_none {l : Str} (h : (47 : UInt8) ∉ l) : parts l = [l] := by
  induction l with
  | nil => rfl
  | cons c r ih =>
    have hc : c ≠ 47 := fun e => h (by rw [e]; exact List.mem_cons_self)
    have hr : (47 : UInt8) ∉ r := fun e => h (List.mem_cons_of_mem _ e)
    unfold parts
    rw [if_neg hc, ih hr]
theorem parts_some {x r : Str} (h : (47 : UInt8) ∉ x) : parts (x ++ 47 :: r) = x :: parts r := by
  induction x with
  | nil =>
    show parts (47 :: r) = _
    rw [parts, if_pos rfl]
  | cons c x ih =>
    have hc : c ≠ 47 := fun e => h (by rw [e]; exact List.mem_cons_self)
    have hr : (47 : UInt8) ∉ x := fun e => h (List.mem_cons_of_mem _ e)
    show parts (c :: (x ++ 47 :: r)) = _
    rw [parts, if_neg hc, ih hr]
theorem parts_clean (l : Str) : ∀ p ∈ parts l, (47 : UInt8) ∉ p := by
  induction l with
  | nil =>
    intro p hp
    have : p = [] := by simpa [parts] using hp
    rw [this]
    simp
  | cons c r ih =>
    intro p hp
    unfold parts at hp
    by_cases hc : c = 47
    · rw [if_pos hc] at hp
      rcases List.mem_cons.1 hp with rfl | hp
      · simp
      · exact ih p hp
    · rw [if_neg hc] at hp
      obtain ⟨h, t, e⟩ := parts_cons r
      rw [e] at hp ih
      rcases List.mem_cons.1 hp with rfl | hp
      · intro hm
        rcases List.mem_cons.1 hm with e1 | hm
        · exact hc e1.symm
        · exact ih h List.mem_cons_self hm
      · exact ih p (List.mem_cons_of_mem _ hp)
/-- The sum of the parts' lengths, a '/' between each two. -/
theorem parts_length (l : Str) : (parts l).length ≤ l.length + 1 := by
  induction l with
  | nil => simp [parts]
  | cons c r ih =>
    unfold parts
    by_cases hc : c = 47
    · rw [if_pos hc]; simp; omega
    · rw [if_neg hc]
      obtain ⟨h, t, e⟩ := parts_cons r
      rw [e] at ih ⊢
      simp at ih ⊢
      omega
theorem parts_mem_length (l : Str) : ∀ p ∈ parts l, p.length ≤ l.length := by
  induction l with
  | nil => intro p hp; have : p = [] := by simpa [parts] using hp
           rw [this]; simp
  | cons c r ih =>
    intro p hp
    unfold parts at hp
    by_cases hc : c = 47
    · rw [if_pos hc] at hp
      rcases List.mem_cons.1 hp with rfl | hp
      · simp
      · have := ih p hp; simp; omega
    · rw [if_neg hc] at hp
      obtain ⟨h, t, e⟩ := parts_cons r
      rw [e] at hp ih
      rcases List.mem_cons.1 hp with rfl | hp
      · have := ih h List.mem_cons_self; simp; omega
      · have := ih p (List.mem_cons_of_mem _ hp); simp; omega
theorem join_parts (l : Str) : Lib.join (parts l) [47] = l := by
  induction l with
  | nil => simp [parts, Lib.join_one]
  | cons c r ih =>
    unfold parts
    by_cases hc : c = 47
    · rw [if_pos hc]
      obtain ⟨h, t, e⟩ := parts_cons r
      rw [e] at ih ⊢
      rw [Lib.join_cons] at ih ⊢
      subst hc
      rw [← ih]
      simp [Lib.joinTail]
    · rw [if_neg hc]
      obtain ⟨h, t, e⟩ := parts_cons r
      rw [e] at ih ⊢
      simp only
      rw [Lib.join_cons] at ih ⊢
      rw [List.cons_append, ih]
theorem parts_join {x : Str} {t : List Str} (h : ∀ p ∈ x :: t, (47 : UInt8) ∉ p) : parts (Lib.join (x :: t) [47]) = x :: t := by
  induction t generalizing x with
  | nil => rw [Lib.join_one, parts_none (h x List.mem_cons_self)]
  | cons y t ih =>
    have e : Lib.join (x :: y :: t) [47] = x ++ 47 :: Lib.join (y :: t) [47] := by
      rw [Lib.join_cons, Lib.join_cons]
      simp [Lib.joinTail]
    rw [e, parts_some (h x List.mem_cons_self), ih (fun p hp => h p (List.mem_cons_of_mem _ hp))]

/-! ### names -/
theorem okName_clean_nil : okName [] = false := by simp [okName]
theorem okName_iff (l : Str) : okName l = true ↔ l ≠ [] ∧ l ≠ [46] ∧ l ≠ [46, 46] ∧ l.length ≤ 255 ∧ (0 : UInt8) ∉ l := by
  unfold okName; rw [decide_eq_true_eq]

/-! ### split -/
theorem split_nil : split [] = none := rfl
theorem split_root : split [47] = some [] := by simp [split]
theorem split_other {c : UInt8} {r : Str} (h : c ≠ 47) : split (c :: r) = none := by simp [split, h]
theorem split_ok {r : Str} (h : r ≠ []) (ha : (parts r).all okName = true) : split (47 :: r) = some (parts r) := by
  show (if (47 : UInt8) = 47 then (if r = [] then some [] else if (parts r).all okName then some (parts r) else none) else none) = _
  rw [if_pos rfl, if_neg h, if_pos ha]
theorem split_bad {r : Str} (h : r ≠ []) (ha : (parts r).all okName = false) : split (47 :: r) = none := by
  show (if (47 : UInt8) = 47 then (if r = [] then some [] else if (parts r).all okName then some (parts r) else none) else none) = _
  rw [if_pos rfl, if_neg h, ha]; rfl
theorem split_some {l : Str} {ns : List Str} (h : split l = some ns) : (l = [47] ∧ ns = []) ∨ (∃ r, l = 47 :: r ∧ r ≠ [] ∧ (parts r).all okName = true ∧ ns = parts r) := by
  cases l with
  | nil => cases h
  | cons c r =>
    replace h : (if c = 47 then (if r = [] then some [] else if (parts r).all okName then some (parts r) else none) else none) = some ns := h
    by_cases hc : c = 47
    · rw [if_pos hc] at h
      subst hc
      by_cases hr : r = []
      · rw [if_pos hr] at h
        injection h with h
        exact .inl ⟨by rw [hr], h.symm⟩
      · rw [if_neg hr] at h
        cases ha : (parts r).all okName with
        | true =>
          rw [ha] at h
          injection h with h
          exact .inr ⟨r, rfl, hr, ha, h.symm⟩
        | false =>
          rw [ha] at h
          cases h
    · rw [if_neg hc] at h
      cases h
theorem join_split {l : Str} {ns : List Str} (h : split l = some ns) : join ns = l := by
  rcases split_some h with ⟨rfl, rfl⟩ | ⟨r, rfl, _, _, rfl⟩
  · rfl
  · unfold join; rw [join_parts]
theorem split_names {l : Str} {ns : List Str} (h : split l = some ns) : ∀ p ∈ ns, okName p = true ∧ (47 : UInt8) ∉ p := by
  rcases split_some h with ⟨rfl, rfl⟩ | ⟨r, rfl, _, ha, rfl⟩
  · intro p hp; cases hp
  · intro p hp
    exact ⟨List.all_eq_true.1 ha p hp, parts_clean r p hp⟩
theorem split_join {ns : List Str} (h : ∀ p ∈ ns, okName p = true ∧ (47 : UInt8) ∉ p) : split (join ns) = some ns := by
  cases ns with
  | nil => rfl
  | cons x t =>
    have e := parts_join (x := x) (t := t) (fun p hp => (h p hp).2)
    have hne : Lib.join (x :: t) [47] ≠ [] := by
      intro he
      rw [he] at e
      have hx : x = [] := by
        have := congrArg List.head? e
        simp [parts] at this
        exact this
      have := (h x List.mem_cons_self).1
      rw [hx, okName_clean_nil] at this
      cases this
    have ha : (parts (Lib.join (x :: t) [47])).all okName = true := by
      rw [e, List.all_eq_true]
      exact fun p hp => (h p hp).1
    unfold join
    rw [split_ok hne ha, e]
theorem split_inj {a b : Str} {ns : List Str} (h : split a = some ns) (h' : split b = some ns) : a = b := by rw [← join_split h, join_split h']
theorem split_length {l : Str} {ns : List Str} (h : split l = some ns) : ns.length ≤ l.length := by
  rcases split_some h with ⟨rfl, rfl⟩ | ⟨r, rfl, _, _, rfl⟩
  · simp
  · have := parts_length r
    simp
    omega

/-! ### parent, within -/
def parent (l : Str) : Option (Str × Str) :=
  match split l with
  | none => none
  | some ns => match ns.getLast? with
    | none => none
    | some n => some (join ns.dropLast, n)
def within (a b : Str) : Bool :=
  match split a, split b with
  | some k, some l => k.isPrefixOf l
  | _, _ => false
end Go.Proofs.YtaccokghjpcijaaGreatDoor.Pp
set_option linter.unusedVariables false
set_option linter.unusedSimpArgs false
namespace Go.Proofs.YtaccokghjpcijaaGreatDoor
open Go Go.RowKit Go.Shelf
variable {F : Fence} {n : Nat} {P : Program}

/-- The contract of an iterator that keeps a state of its own: its own steps are those of A; what a round that goes on keeps is Kp. -/
def SeqStopsB {α : Type} (F : Fence) (n : Nat) (P : Program) (g : Nat) (lb : Array Value) (encs : α → Array Value) (A Kp : World → World → Prop) (S Sp : List α → Prop) (R : List α → α → Prop) (w : World) : Prop :=
  ∀ (l : Nat) (J Jx : List α → World → Prop) (W : World), Kp w W → (∀ s X Y, J s X → A X Y → J s Y) → (∀ s X Y, Jx s X → A X Y → Jx s Y) →
    (∀ pre x W1, J pre W1 → R pre x → YieldAt F (n - 1) P l (encs x) W1 fun e W' =>
      (e = .returned (.bool true) ∧ J (pre ++ [x]) W' ∧ Kp W1 W') ∨ (e = .returned (.bool false) ∧ Jx (pre ++ [x]) W')) →
    J [] W →
    CallsIn F n P g (#[.func (.yield l) #[] #[]] ++ lb) W fun e W' => (∃ v, e = .returned v) ∧ ((∃ xs, S xs ∧ J xs W') ∨ (∃ pre, Sp pre ∧ Jx pre W'))

/-- The law of a range over such an iterator (after the guide's wpIn_rangeFunc_ownG). -/
theorem wpIn_rangeFunc_box {α : Type} {g : Operand} {ps : Array Tmp} {assign body : Code} {Q : Exit → Act → World → Prop} {a : Act} {w : World}
    (hro : F.round = none) (h1 : 1 ≤ n) {gf : Nat} {lb : Array Value} (hg : a.eval g = .func (.func gf) #[] lb) (hFg : F.fn gf) (eg : ∀ args w, (callFunc gf args).run P w = .ok (.enter gf args) w)
    {encs : α → Array Value} {A Kp : World → World → Prop} {S Sp : List α → Prop} {R : List α → α → Prop} (hseq : SeqStopsB F (n - 1) P gf lb encs A Kp S Sp R w)
    (hKt : ∀ {A B C : World}, Kp A B → Kp B C → Kp A C) (hKb : ∀ (W : World) (l : Nat) (o' : Obj), w.heap.size ≤ l → Kp W (W.putObj l o')) (hKa : ∀ (W : World) (o : Obj), Kp w W → Kp w (W.alloc o)) (hK0 : Kp w w) (hps : ∀ x, (encs x).size = ps.size)
    (hA : ∀ (X Y : World) (k : Nat) (o : Obj), A X Y → w.heap.size ≤ k → X.heap[k]? = some o → Y.heap[k]? = some o)
    (I : List α → World → Prop) (Ix : Code → List α → World → Prop) (hI : OwnFrom w.heap.size I) (hIx : ∀ c, OwnFrom w.heap.size (Ix c)) (hIA : ∀ s X Y, I s X → A X Y → I s Y) (hIxA : ∀ c s X Y, Ix c s X → A X Y → Ix c s Y) (h0 : I [] w) (a₁ : α → Act)
    (hassign : ∀ (l : Nat) (x : α) (W : World) (K : Act → World → Prop), K (a₁ x) W →
      assign.wpIn (F.inRound l) (n - 1 - 1) P (Exit.then K (fun _ _ _ => False)) { tmps := (ps.zip (encs x)).foldl (fun t (p, v) => t.setIfInBounds p v) a.tmps, defers := [] } W)
    (hbody : ∀ (l : Nat) (pre : List α) (x : α) (W : World), I pre W → w.heap.size + 1 < W.heap.size → R pre x → body.wpIn (F.inRound l) (n - 1 - 1) P (ownPostG w.heap.size Kp I Ix (pre ++ [x]) W) (a₁ x) W)
    (hdone : ∀ (D : Nat) (xs : List α) (W : World), w.heap.size ≤ D → S xs → I xs W → W.heap[D]? = some (.deferred (some [])) → Q .normal { a with defers := { target := .collected D, args := #[] } :: a.defers } W)
    (hstop : ∀ (D : Nat) (c : Code) (pre : List α) (W : World), w.heap.size ≤ D → Sp pre → Ix c pre W → W.heap[D]? = some (.deferred (some [])) → c.wpIn F n P Q { a with defers := { target := .collected D, args := #[] } :: a.defers } W) :
    (Code.rangeFunc g ps assign body).wpIn F n P Q a w := by
  refine wpIn_rangeFunc ?_
  intro fn hfn
  rw [hro]
  obtain ⟨rec, hrec⟩ : ∃ rec : LoopState → Option Code → Loop, rec = fun st pe => { state := st, pending := pe, fn, tmps := a.tmps, params := ps, assign, body, defers := w.heap.size } := ⟨_, rfl⟩
  obtain ⟨W1, hW1⟩ : ∃ W1, (w.alloc (.deferred (some []))).alloc (.loop (rec .ready none)) = W1 := ⟨_, rfl⟩
  have hL1 : W1.heap[w.heap.size + 1]? = some (.loop (rec .ready none)) := by
    rw [← hW1]; have := World.alloc_heap_new (w.alloc (.deferred (some []))) (.loop (rec .ready none)); rwa [World.size_alloc] at this
  have hK1 : W1.heap[w.heap.size]? = some (.deferred (some [])) := by
    rw [← hW1]; exact (Below.heap_alloc _ _ _ (by simp)).trans (World.alloc_heap_new w _)
  have hI1 : I [] W1 := by rw [← hW1]; exact hI.alloc _ (hI.alloc _ h0)
  have hb1 : Kp w W1 := by rw [← hW1]; exact hKa _ _ (hKa _ _ hK0)
  refine ⟨w.heap.size + 1, [{ target := .collected w.heap.size, args := #[] }], W1, { target := .fn (.func gf) lb, args := #[.func (.yield (w.heap.size + 1)) #[] #[]] }, W1, gf,
    #[.func (.yield (w.heap.size + 1)) #[] #[]] ++ lb, W1, ?_, ?_, ?_, ?_, fun _ => h1, ?_⟩
  · rw [← hW1, hrec]; exact run_enterLoop_outer _ _ _ _ _
  · simp only [resolve, hg]
    simp [go_sem]
  · intro f' hf'; simp [Target.leads] at hf'; subst hf'; exact hFg
  · simp [invoke, go_sem, eg]
  · refine (hseq (w.heap.size + 1)
      (fun pre W => I pre W ∧ W.heap[w.heap.size + 1]? = some (.loop (rec .ready none)) ∧ W.heap[w.heap.size]? = some (.deferred (some [])))
      (fun pre W => ∃ c, Ix c pre W ∧ W.heap[w.heap.size + 1]? = some (.loop (rec .done (some c))) ∧ W.heap[w.heap.size]? = some (.deferred (some [])))
      W1 hb1
      (fun s X Y hs hs' => ⟨hIA s X Y hs.1 hs', hA X Y _ _ hs' (by omega) hs.2.1, hA X Y _ _ hs' (Nat.le_refl _) hs.2.2⟩)
      (fun s X Y hs hs' => by
        obtain ⟨c, hc, hl, hk⟩ := hs
        exact ⟨c, hIxA c s X Y hc hs', hA X Y _ _ hs' (by omega) hl, hA X Y _ _ hs' (Nat.le_refl _) hk⟩)
      ?_ ⟨hI1, hL1, hK1⟩).mono ?_
    · rintro pre x W ⟨hi, hl, hk⟩ hlen
      have hlt : w.heap.size + 1 < W.heap.size := (Array.getElem?_eq_some_iff.1 hl).1
      have hy := run_yield (P := P) (args := encs x) hl (by rw [hrec]; exact hps x)
      rw [hrec] at hy
      refine ⟨fn, _, assign, body, hy, roundIn_of_wpIn hfn (hassign _ x W _ ⟨_, run_beginRound hl (by rw [hrec]), ?_⟩)⟩
      have hl2 : (W.putObj (w.heap.size + 1) (.loop { rec .ready none with state := .busy })).heap[w.heap.size + 1]? = some (.loop { rec .ready none with state := .busy }) := World.putObj_heap_same hlt
      have hk2 : (W.putObj (w.heap.size + 1) (.loop { rec .ready none with state := .busy })).heap[w.heap.size]? = some (.deferred (some [])) := (World.putObj_heap_other (by omega)).trans hk
      have hw2 : Kp W (W.putObj (w.heap.size + 1) (.loop { rec .ready none with state := .busy })) := hKb _ _ _ (by omega)
      refine wpIn_mono (hbody _ pre x _ (hI.putObj _ hi (by omega) hl rfl) (by have := (Array.getElem?_eq_some_iff.1 hl2).1; omega) hlen) ?_
      have fin : ∀ (jump : Option Code) (W3 : World), KeepsFrom w.heap.size (W.putObj (w.heap.size + 1) (.loop { rec .ready none with state := .busy })) W3 →
          (Instr.endRound (w.heap.size + 1) jump).run P W3 = .ok (.bool jump.isNone) (W3.putObj (w.heap.size + 1) (.loop (rec (if jump.isNone then .ready else .done) jump))) ∧
          W3.heap[w.heap.size + 1]? = some (.loop { rec .ready none with state := .busy }) ∧
          (W3.putObj (w.heap.size + 1) (.loop (rec (if jump.isNone then .ready else .done) jump))).heap[w.heap.size + 1]? = some (.loop (rec (if jump.isNone then .ready else .done) jump)) ∧
          (W3.putObj (w.heap.size + 1) (.loop (rec (if jump.isNone then .ready else .done) jump))).heap[w.heap.size]? = some (.deferred (some [])) := fun jump W3 hk3 => by
        have hl3 := hk3.same _ _ (by omega) hl2 rfl
        have := run_endRound (P := P) jump hl3
        rw [hrec] at this ⊢
        exact ⟨this, by rw [hrec] at hl3; exact hl3, World.putObj_heap_same (Array.getElem?_eq_some_iff.1 hl3).1, (World.putObj_heap_other (by omega)).trans (hk3.same _ _ (Nat.le_refl _) hk2 rfl)⟩
      rintro e a3 W3 hp
      cases e with
      | normal =>
        obtain ⟨hk3, hkp3, hi3⟩ := hp
        obtain ⟨hr, hl3, hl4, hk4⟩ := fin none W3 hk3
        exact ⟨_, _, hr, .inl ⟨rfl, ⟨hI.putObj _ hi3 (by omega) hl3 rfl, hl4, hk4⟩, hKt (hKt hw2 hkp3) (hKb _ _ _ (by omega))⟩⟩
      | ret =>
        obtain ⟨hk3, hi3⟩ := hp
        obtain ⟨hr, hl3, hl4, hk4⟩ := fin (some .ret) W3 hk3
        exact ⟨_, _, hr, .inr ⟨rfl, .ret, (hIx _).putObj _ hi3 (by omega) hl3 rfl, hl4, hk4⟩⟩
      | exit id =>
        obtain ⟨hk3, hi3⟩ := hp
        obtain ⟨hr, hl3, hl4, hk4⟩ := fin (some (.exit id)) W3 hk3
        exact ⟨_, _, hr, .inr ⟨rfl, .exit id, (hIx _).putObj _ hi3 (by omega) hl3 rfl, hl4, hk4⟩⟩
      | goto t =>
        obtain ⟨hk3, hi3⟩ := hp
        obtain ⟨hr, hl3, hl4, hk4⟩ := fin (some (.goto t)) W3 hk3
        exact ⟨_, _, hr, .inr ⟨rfl, .goto t, (hIx _).putObj _ hi3 (by omega) hl3 rfl, hl4, hk4⟩⟩
      | panic ch => exact hp.elim
      | outgrown => exact hp.elim
    · rintro e W2 ⟨⟨v, rfl⟩, (⟨xs, hS, hi, hl, hk⟩ | ⟨pre, hSp, c, hi, hl, hk⟩)⟩
      · exact ⟨none, _, by have := run_endLoop (P := P) hl (by rw [hrec]; simp); rw [hrec] at this; exact this, hdone _ xs _ (Nat.le_refl _) hS (hI.putObj _ hi (by omega) hl rfl) ((World.putObj_heap_other (by omega)).trans hk)⟩
      · exact ⟨some c, _, by have := run_endLoop (P := P) hl (by rw [hrec]; simp); rw [hrec] at this; exact this, hstop _ c pre _ (Nat.le_refl _) hSp ((hIx c).putObj _ hi (by omega) hl rfl) ((World.putObj_heap_other (by omega)).trans hk)⟩
end Go.Proofs.YtaccokghjpcijaaGreatDoor
set_option linter.unusedVariables false
set_option linter.unusedSimpArgs false
namespace Go.Proofs.YtaccokghjpcijaaGreatDoor
open Go Go.RowKit Go.Shelf Pp
attribute [local go_sem] Oper.semAt_some

/-- The bytes of a text. -/
def mk (l : Str) : ByteArray := ⟨l.toArray⟩
theorem mk_toList (l : Str) : (mk l).data.toList = l := by simp [mk]
theorem mk_size (l : Str) : (mk l).size = l.length := by simp [mk, ByteArray.size]
theorem mk_data (s : ByteArray) : mk s.data.toList = s := by cases s; simp [mk]
theorem mk_inj {a b : Str} (h : mk a = mk b) : a = b := by rw [← mk_toList a, h, mk_toList]
theorem mk_extract (l : Str) (i j : Nat) : (mk l).extract i j = mk ((l.drop i).take (j - i)) := by
  have h : ((mk l).extract i j).data.toList = (l.drop i).take (j - i) := by
    rw [Lib.extract_data]
    simp [mk]
  rw [← mk_data ((mk l).extract i j), h]

theorem idx_none {l : Str} (h : (47 : UInt8) ∉ l) : Lib.indexByte l 47 = -1 := by
  have hg := Lib.indexByte_ge l 47
  by_cases e : Lib.indexByte l 47 = -1
  · exact e
  · exfalso
    have ho : Lib.indexByte l 47 = ((Lib.indexByte l 47).toNat : Nat) := by omega
    have := (Lib.indexByte_some ho).1
    exact h (List.mem_of_getElem? this)
theorem idx_some {x r : Str} (h : (47 : UInt8) ∉ x) : Lib.indexByte (x ++ 47 :: r) 47 = (x.length : Int) := by
  have hg := Lib.indexByte_ge (x ++ 47 :: r) 47
  by_cases e : Lib.indexByte (x ++ 47 :: r) 47 = -1
  · exact absurd (by simp) (Lib.indexByte_none e x.length)
  · have ho : Lib.indexByte (x ++ 47 :: r) 47 = ((Lib.indexByte (x ++ 47 :: r) 47).toNat : Nat) := by omega
    obtain ⟨h1, h2⟩ := Lib.indexByte_some ho
    rcases Nat.lt_trichotomy (Lib.indexByte (x ++ 47 :: r) 47).toNat x.length with hlt | heq | hgt
    · rw [List.getElem?_append_left hlt] at h1
      exact absurd (List.mem_of_getElem? h1) h
    · omega
    · exact absurd (by simp) (h2 x.length hgt)
theorem cut_at {l : Str} (h : (47 : UInt8) ∈ l) : ∃ x r, l = x ++ 47 :: r ∧ (47 : UInt8) ∉ x := by
  induction l with
  | nil => cases h
  | cons c l ih =>
    by_cases hc : c = 47
    · exact ⟨[], l, by rw [hc]; rfl, by simp⟩
    · rcases List.mem_cons.1 h with e | h
      · exact absurd e.symm hc
      · obtain ⟨x, r, rfl, hx⟩ := ih h
        exact ⟨c :: x, r, rfl, fun hm => by
          rcases List.mem_cons.1 hm with e | hm
          · exact hc e.symm
          · exact hx hm⟩

theorem index_none (l : Str) (w : World) (h : (47 : UInt8) ∉ l) : Calls Tryz.prog 86 #[.string (mk l), .string ⟨#[47]⟩] w fun e w' => e = .returned (.int .i64 (-1)) ∧ w' = w := by
  have := Tryz.strings_Index_one (mk l) 47 w
  rw [mk_toList, idx_none h] at this
  exact this
theorem index_some (x r : Str) (w : World) (h : (47 : UInt8) ∉ x) : Calls Tryz.prog 86 #[.string (mk (x ++ 47 :: r)), .string ⟨#[47]⟩] w fun e w' => e = .returned (.int .i64 (x.length : Int)) ∧ w' = w := by
  have := Tryz.strings_Index_one (mk (x ++ 47 :: r)) 47 w
  rw [mk_toList, idx_some h] at this
  exact this

/-- What the iterator keeps: the separator, what is left, 0. -/
def Boxes (b1 b2 b3 : Nat) (rest : Str) (W : World) : Prop :=
  W.heap[b1]? = some (.cells #[.string ⟨#[47]⟩] 9 (0, 0)) ∧ W.heap[b2]? = some (.cells #[.string (mk rest)] 9 (0, 0)) ∧ W.heap[b3]? = some (.cells #[.int .i64 0] 3 (0, 0))
def KpB (b1 b2 b3 : Nat) (X Y : World) : Prop := Y.heap[b1]? = X.heap[b1]? ∧ Y.heap[b2]? = X.heap[b2]? ∧ Y.heap[b3]? = X.heap[b3]?
def StB (b2 : Nat) (X Y : World) : Prop := ∃ v : Value, Y = X.setCell ⟨b2, 0, none⟩ v
theorem Boxes.kept {b1 b2 b3 : Nat} {rest : Str} {X Y : World} (h : Boxes b1 b2 b3 rest X) (k : KpB b1 b2 b3 X Y) : Boxes b1 b2 b3 rest Y := ⟨k.1.trans h.1, k.2.1.trans h.2.1, k.2.2.trans h.2.2⟩
theorem Boxes.cells {b1 b2 b3 : Nat} {rest : Str} {W : World} (h : Boxes b1 b2 b3 rest W) :
    W.cell? ⟨b1, 0, none⟩ = some (.string ⟨#[47]⟩) ∧ W.cell? ⟨b2, 0, none⟩ = some (.string (mk rest)) ∧ W.cell? ⟨b3, 0, none⟩ = some (.int .i64 0) ∧ W.frozen? ⟨b2, 0, none⟩ = false := by
  refine ⟨?_, ?_, ?_, ?_⟩
  · simp [World.cell?, h.1]
  · simp [World.cell?, h.2.1]
  · simp [World.cell?, h.2.2]
  · simp [World.frozen?, h.2.1]
theorem Boxes.put {b1 b2 b3 : Nat} {rest : Str} {W : World} (h : Boxes b1 b2 b3 rest W) (h12 : b1 ≠ b2) (h23 : b3 ≠ b2) (r : Str) : Boxes b1 b2 b3 r (W.setCell ⟨b2, 0, none⟩ (.string (mk r))) := by
  refine ⟨?_, ?_, ?_⟩
  · rw [Below.heap_setCell _ _ _ _ h12]; exact h.1
  · simp only [World.setCell, Array.getElem?_modify, if_pos, h.2.1]
    simp
  · rw [Below.heap_setCell _ _ _ _ h23]; exact h.2.2
/-- How much is left, read off the world. -/
def leftB (b2 : Nat) (W : World) : Nat := match W.cell? ⟨b2, 0, none⟩ with
  | some (.string s) => s.size
  | _ => 0
theorem leftB_eq {b1 b2 b3 : Nat} {rest : Str} {W : World} (h : Boxes b1 b2 b3 rest W) : leftB b2 W = rest.length := by
  unfold leftB; rw [h.cells.2.1]; exact mk_size rest

theorem wide_depth {m : Nat} : Fence.wide.depth.isSome = true → 1 ≤ m := fun h => by cases h
set_option maxRecDepth 100000 in
set_option maxHeartbeats 1000000 in
/-- The closure that strings.SplitSeq hands back, at '/': it yields the parts, one behind the other. -/
theorem split_iter (n : Nat) (b1 b2 b3 : Nat) (h12 : b1 ≠ b2) (h23 : b3 ≠ b2) (l : Str) (hl : l.length ≤ 140737488355328) (w : World) (hw : Boxes b1 b2 b3 l w) :
    SeqStopsB Fence.wide n Tryz.prog 84 #[.pointer (some ⟨b1, 0, none⟩), .pointer (some ⟨b2, 0, none⟩), .pointer (some ⟨b3, 0, none⟩)] (fun x : Str => #[.string (mk x)]) (StB b2) (KpB b1 b2 b3) (fun xs => xs = parts l) (fun pre => pre <+: parts l) (fun pre x => pre ++ [x] <+: parts l) w := by
  intro lp J Jx W hk hJ hJx hY h0
  have hB := hw.kept hk
  refine callsIn_of_wp Tryz.func84 rfl trivial ?_ rfl
  simp only [Tryz.ntmps84, List.size_toArray, List.length_cons, List.length_nil, Nat.reduceAdd, Nat.reduceSub, Array.replicate_succ, Array.replicate_zero, List.push_toArray, List.append_toArray, List.nil_append, List.cons_append]
  obtain ⟨q1, q2, q3, q4⟩ := hB.cells
  gi_wp2_with fail
  clear q1 q2 q3 q4
  gi_loopw [7] (fun v wr => ∃ (pre : List Str) (rest : Str), parts l = pre ++ parts rest ∧ rest.length ≤ l.length ∧ Boxes b1 b2 b3 rest wr ∧ J pre wr) (fun _ wr => leftB b2 wr)
  case atStart => exact ⟨[], l, rfl, Nat.le_refl _, hB, h0⟩
  case round =>
    obtain ⟨pre, rest, hp, hle, hbx, hJs⟩ := hrel
    obtain ⟨q1, q2, q3, q4⟩ := hbx.cells
    by_cases hm : (47 : UInt8) ∈ rest
    · obtain ⟨x, r, rfl, hx⟩ := cut_at hm
      have hpre : pre ++ [x] <+: parts l := by rw [hp, parts_some hx]; exact ⟨parts r, by simp⟩
      have hp' := Lib.hid (show parts l = (pre ++ [x]) ++ parts r by rw [hp, parts_some hx]; simp)
      obtain ⟨fn, tmps, assign, body, hy, hR⟩ := hY pre x wr hJs hpre
      have hlen : x.length + 1 + r.length = (x ++ 47 :: r).length := by simp; omega
      have hsz : (mk (x ++ 47 :: r)).size = x.length + 1 + r.length := by rw [mk_size, hlen]
      have e1 : (mk (x ++ 47 :: r)).extract 0 x.length = mk x := by rw [mk_extract]; simp
      have e2 := Lib.hid (show (mk (x ++ 47 :: r)).extract (x.length + 1) (x.length + 1 + r.length) = mk r by rw [mk_extract]; congr 1; rw [List.drop_append, List.drop_eq_nil_of_le (by omega)]; simp)
      have hb1 : (x.length : Int) ≤ 140737488355328 := by omega
      have HP := Lib.hid hp
      have HB := Lib.hid hbx
      clear hp hbx hm hpre hlen
      gi_wp2_with (refine ⟨trivial, wide_depth, ?_⟩; gi_at_call 86; refine (callsIn_wide.2 (index_some x r _ hx)).mono ?_; rintro e w' ⟨rfl, rfl⟩)
      refine ⟨wide_depth, hR.mono ?_⟩
      clear hR hy
      rintro e W3 (⟨rfl, hJ3, hk3⟩ | ⟨rfl, hJx3⟩)
      · have HB3 := Lib.hid (HB.out.kept hk3)
        clear q1 q2 q3 q4 hk3
        obtain ⟨q1, q2, q3, q4⟩ := HB3.out.cells
        gi_wp2_with fail
        rw [e2.out]
        have hput := HB3.out.put h12 h23 r
        refine ⟨⟨pre ++ [x], r, hp'.out, by simp at hle ⊢; omega, hput, hJ _ _ _ hJ3 ⟨_, rfl⟩⟩, ?_⟩
        rw [leftB_eq hput, leftB_eq HB.out]
        simp
        omega
      · gi_wp2_with fail
        refine bodyPost_ret (results_none rfl _ _ _) rfl ?_
        exact ⟨⟨_, rfl⟩, .inr ⟨_, ⟨parts r, hp'.out.symm⟩, hJx3⟩⟩
    · have hpre : pre ++ [rest] <+: parts l := by rw [hp, parts_none hm]; exact ⟨[], by simp⟩
      have hp' := Lib.hid (show parts l = pre ++ [rest] by rw [hp, parts_none hm])
      obtain ⟨fn, tmps, assign, body, hy, hR⟩ := hY pre rest wr hJs hpre
      have HP := Lib.hid hp
      have HB := Lib.hid hbx
      have HX := Lib.hid hpre
      clear hp hbx hpre
      gi_wp2_with (refine ⟨trivial, wide_depth, ?_⟩; gi_at_call 86; refine (callsIn_wide.2 (index_none rest _ hm)).mono ?_; rintro e w' ⟨rfl, rfl⟩)
      refine ⟨wide_depth, hR.mono ?_⟩
      rintro e W3 (⟨rfl, hJ3, hk3⟩ | ⟨rfl, hJx3⟩)
      · gi_wp2
        go_end0
        exact ⟨⟨_, rfl⟩, .inl ⟨_, hp'.out.symm, hJ3⟩⟩
      · gi_wp2
        go_end0
        exact ⟨⟨_, rfl⟩, .inr ⟨_, HX.out, hJx3⟩⟩
end Go.Proofs.YtaccokghjpcijaaGreatDoor
set_option linter.unusedVariables false
set_option linter.unusedSimpArgs false
namespace Go.Proofs.YtaccokghjpcijaaGreatDoor
open Go Go.RowKit Go.Shelf Pp

theorem idx0_none {l : Str} (h : (0 : UInt8) ∉ l) : Lib.indexByte l 0 = -1 := by
  have hg := Lib.indexByte_ge l 0
  by_cases e : Lib.indexByte l 0 = -1
  · exact e
  · exfalso
    have ho : Lib.indexByte l 0 = ((Lib.indexByte l 0).toNat : Nat) := by omega
    exact h (List.mem_of_getElem? (Lib.indexByte_some ho).1)
theorem idx0_some {l : Str} (h : (0 : UInt8) ∈ l) : 0 ≤ Lib.indexByte l 0 := by
  have hg := Lib.indexByte_ge l 0
  by_cases e : Lib.indexByte l 0 = -1
  · obtain ⟨k, hk, hk'⟩ := List.mem_iff_getElem.1 h
    exact absurd (by rw [List.getElem?_eq_getElem hk, hk']) (Lib.indexByte_none e k)
  · omega
theorem index0 (l : Str) (w : World) : Calls Tryz.prog 64 #[.string (mk l), .int .u8 0] w fun e w' => e = .returned (.int .i64 (Lib.indexByte l 0)) ∧ w' = w := by
  have := Tryz.strings_IndexByte (mk l) 0 w
  rw [mk_toList] at this
  exact this
theorem mk_list (l : Str) : (mk l).toList = l := by
  have : (mk l).toList = (mk l).data.toList := by rw [ByteArray.toList_eq]
  rw [this, mk_toList]
theorem ret_bool {a b : Bool} (h : a = b) : Ending.returned (.bool a) = .returned (.bool b) := by rw [h]
theorem okF {l : Str} (h : ¬ (l ≠ [] ∧ l ≠ [46] ∧ l ≠ [46, 46] ∧ l.length ≤ 255 ∧ (0 : UInt8) ∉ l)) : okName l = false := by unfold okName; exact decide_eq_false h

set_option maxRecDepth 100000 in
set_option maxHeartbeats 1000000 in
theorem name_calls (l : Str) (hl : l.length ≤ 140737488355328) (w : World) : Calls Tryz.prog 42 #[.string (mk l)] w fun e w' => e = .returned (.bool (okName l)) ∧ w' = w := by
  have hs : (mk l).size = l.length := mk_size l
  have ht : (mk l).toList = l := mk_list l
  go_enter Tryz.func42, Tryz.ntmps42
  go_wp2_with fail
  · have h1 : l = [] := by assumption
    go_ret
    exact ⟨ret_bool (okF (fun h => h.1 h1)).symm, rfl⟩
  · have h1 : l = [46] := by assumption
    go_ret
    exact ⟨ret_bool (okF (fun h => h.2.1 h1)).symm, rfl⟩
  · have h1 : l = [46, 46] := by assumption
    go_ret
    exact ⟨ret_bool (okF (fun h => h.2.2.1 h1)).symm, rfl⟩
  · have h1 : ¬ l = [] := by assumption
    have h2 : ¬ l = [46] := by assumption
    have h3 : ¬ l = [46, 46] := by assumption
    have h4 : (List.length l : Int) ≤ 255 := by assumption
    refine (index0 l _).mono ?_
    rintro e w' ⟨rfl, rfl⟩
    by_cases h0 : (0 : UInt8) ∈ l
    · have hi := idx0_some h0
      go_wp2_with fail
      go_ret
      refine ⟨ret_bool ?_, rfl⟩
      rw [okF (fun h => h.2.2.2.2 h0)]
      simp
      omega
    · have hi := idx0_none h0
      go_wp2_with fail
      go_ret
      refine ⟨ret_bool ?_, rfl⟩
      rw [(okName_iff l).2 ⟨h1, h2, h3, by omega, h0⟩]
      simp [h1, h2, h3]
  · have h1 : 255 < (List.length l : Int) := by assumption
    go_ret
    exact ⟨ret_bool (okF (fun h => by omega)).symm, rfl⟩
end Go.Proofs.YtaccokghjpcijaaGreatDoor
set_option linter.unusedVariables false
set_option linter.unusedSimpArgs false
namespace Go.Proofs.YtaccokghjpcijaaGreatDoor
open Go Go.RowKit Go.Shelf Pp Go.Proofs.YtaccokghjpcijaaGreatDoorW.PrintWords
attribute [local go_sem] Oper.semAt_some

/-- Texts as values. -/
def svals (ns : List Str) : List Value := ns.map fun x => .string (mk x)
theorem svals_length (ns : List Str) : (svals ns).length = ns.length := by simp [svals]
theorem svals_snoc (ns : List Str) (x : Str) : svals (ns ++ [x]) = svals ns ++ [.string (mk x)] := by simp [svals]
/-- A value reads as a list of texts. -/
def Strs (W : World) (v : Value) (ns : List Str) : Prop := ∃ A c, v = .slice A ns.length c ∧ ns.length ≤ c ∧ Kd.C Kd.string W A ns.length (ns.map mk)
theorem Strs.below {W W' : World} {v : Value} {ns : List Str} (h : Strs W v ns) (hb : Below W.heap.size W W') : Strs W' v ns := by
  obtain ⟨A, c, hv, hc, hC⟩ := h
  exact ⟨A, c, hv, hc, Kd.C_below hC hb⟩
theorem add0 (g j : Nat) : (⟨g, 0, none⟩ : Addr).add j = ⟨g, j, none⟩ := by unfold Addr.add; split <;> simp_all
theorem Strs.of_row {W : World} {base : Nat} {v : Value} {ns : List Str} (h : W.ownsRow base 9 1 v ns.length (svals ns)) (hm : ns.length ≤ 140737488355328) : Strs W v ns := by
  rcases h.2 with ⟨rfl, h0⟩ | ⟨g, cap, cur, rfl, hb, hh, h1, h2, h3⟩
  · obtain rfl : ns = [] := List.eq_nil_of_length_eq_zero h0
    exact ⟨none, 0, rfl, Nat.le_refl _, rfl, by simp, fun h => by simp at h⟩
  · refine ⟨_, cap, rfl, h1, by simp, by omega, fun _ => ⟨_, rfl, fun j p hj => ⟨[.string p], rfl, rfl, fun i u hu => ?_⟩⟩⟩
    have hi : i = 0 := by
      rcases Nat.eq_zero_or_pos i with h0 | h0
      · exact h0
      · rw [List.getElem?_eq_none (by simp; omega)] at hu
        cases hu
    subst hi
    have hu' : u = .string p := by simpa using hu.symm
    subst hu'
    have hs : (Kd.string).sz = 1 := rfl
    rw [hs, Nat.mul_one, Nat.add_zero]
    refine h.cells (g := g) rfl j _ ?_
    simp only [List.getElem?_map] at hj
    simp only [svals, List.getElem?_map]
    cases e : ns[j]? with
    | none => rw [e] at hj; cases hj
    | some x =>
      rw [e] at hj
      have : mk x = p := by simpa using hj
      rw [← this]
      rfl

/-- What path.Split hands back. -/
def SplitPost (l : Str) (w : World) (e : Ending) (w' : World) : Prop :=
  Below w.heap.size w w' ∧ ((split l = none ∧ e = .returned (.tuple #[.slice none 0 0, .int .i64 12])) ∨ ∃ ns v, split l = some ns ∧ e = .returned (.tuple #[v, .int .i64 0]) ∧ Strs w' v ns)

theorem cut_yes (r : Str) (w : World) : Calls Tryz.prog 40 #[.string (mk (47 :: r)), .string ⟨#[47]⟩] w fun e w' => e = .returned (.tuple #[.string (mk r), .bool true]) ∧ w' = w := by
  have := Tryz.strings_CutPrefix (mk (47 :: r)) ⟨#[47]⟩ w
  rw [mk_toList] at this
  have e1 : Lib.hasPrefix (47 :: r) (ByteArray.mk #[47]).data.toList = true := by simp [Lib.hasPrefix]
  have e2 : Lib.trimPrefix (47 :: r) (ByteArray.mk #[47]).data.toList = r := by unfold Lib.trimPrefix; rw [e1]; simp
  rw [e1, e2] at this
  exact this
theorem cut_no (l : Str) (h : ∀ r, l ≠ 47 :: r) (w : World) : Calls Tryz.prog 40 #[.string (mk l), .string ⟨#[47]⟩] w fun e w' => e = .returned (.tuple #[.string (mk l), .bool false]) ∧ w' = w := by
  have := Tryz.strings_CutPrefix (mk l) ⟨#[47]⟩ w
  rw [mk_toList] at this
  have e1 : Lib.hasPrefix l (ByteArray.mk #[47]).data.toList = false := by
    cases l with
    | nil => rfl
    | cons c r =>
      have hc : c ≠ 47 := fun e => h r (by rw [e])
      simp [Lib.hasPrefix, List.isPrefixOf]
      exact fun e => hc e.symm
  have e2 : Lib.trimPrefix l (ByteArray.mk #[47]).data.toList = l := by unfold Lib.trimPrefix; rw [e1]; simp
  rw [e1, e2] at this
  exact this
set_option maxRecDepth 100000 in
set_option maxHeartbeats 1000000 in
theorem seq_calls (r : Str) (w : World) : Calls Tryz.prog 41 #[.string (mk r), .string ⟨#[47]⟩] w fun e w' =>
    e = .returned (.func (.func 84) #[] #[.pointer (some ⟨w.heap.size + 1, 0, none⟩), .pointer (some ⟨w.heap.size, 0, none⟩), .pointer (some ⟨w.heap.size + 2, 0, none⟩)]) ∧
    w' = ((w.alloc (.cells #[.string (mk r)] 9)).alloc (.cells #[.string ⟨#[47]⟩] 9)).alloc (.cells #[.int .i64 0] 3) := by
  go_enter Tryz.func41, Tryz.ntmps41
  go_wp2
  go_ret
  exact ⟨rfl, rfl⟩

theorem split_results (W : World) (b0 b1 : Nat) (A : Option Addr) (n c : Nat) (x : Int) (tmps : Array Value) (t2 : tmps[2]? = some (.pointer (some ⟨b0, 0, none⟩))) (t3 : tmps[3]? = some (.pointer (some ⟨b1, 0, none⟩)))
    (h0 : W.cell? ⟨b0, 0, none⟩ = some (.slice A n c)) (h1 : W.cell? ⟨b1, 0, none⟩ = some (.int .i64 x)) :
    (results Tryz.f17 tmps).run Tryz.prog W = .ok (.tuple #[.slice A n c, .int .i64 x]) W := by
  simp [results, Tryz.results17, go_sem, t2, t3, h0, h1]
set_option maxRecDepth 100000 in
set_option maxHeartbeats 1000000 in
theorem split_no (l : Str) (hl : l.length ≤ 4398046511104) (h : ∀ r, l ≠ 47 :: r) (w : World) : Calls Tryz.prog 17 #[.string (mk l)] w (SplitPost l w) := by
  have hsp : split l = none := by
    cases l with
    | nil => rfl
    | cons c r => exact split_other (fun e => h r (by rw [e]))
  refine (callsIn_wide (n := 3)).1 ?_
  refine callsIn_of_wp_marks Tryz.func17 rfl trivial ?_ rfl
  simp only [Tryz.ntmps17, List.size_toArray, List.length_cons, List.length_nil, Nat.reduceAdd, Nat.reduceSub, Array.replicate_succ, Array.replicate_zero, List.push_toArray, List.append_toArray, List.nil_append, List.cons_append]
  have HS := Lib.hid hsp
  clear hsp
  gi_wp2_with (refine ⟨trivial, ?_⟩; gi_at_call 40; refine (callsIn_wide.2 (cut_no l h _)).mono ?_; rintro e w' ⟨rfl, rfl⟩)
  exact ⟨_, split_results _ w.heap.size (w.heap.size + 1) none 0 0 12 _ rfl rfl ((Boxed.new w _ _).alloc _).cell (by have := (Boxed.new (w.alloc (.cells #[.slice none 0 0] 30)) 29 (.int .i64 12)).cell; rwa [World.size_alloc] at this),
    ((Below.refl _ _).alloc (Nat.le_refl _) _).alloc (by simp) _, .inl ⟨HS.out, rfl⟩⟩

set_option maxRecDepth 100000 in
set_option maxHeartbeats 1000000 in
theorem split_root_calls (w : World) : Calls Tryz.prog 17 #[.string (mk [47])] w (SplitPost [47] w) := by
  refine (callsIn_wide (n := 3)).1 ?_
  refine callsIn_of_wp_marks Tryz.func17 rfl trivial ?_ rfl
  simp only [Tryz.ntmps17, List.size_toArray, List.length_cons, List.length_nil, Nat.reduceAdd, Nat.reduceSub, Array.replicate_succ, Array.replicate_zero, List.push_toArray, List.append_toArray, List.nil_append, List.cons_append]
  have ht : (mk []).toList = [] := mk_list []
  gi_wp2_with (refine ⟨trivial, ?_⟩; gi_at_call 40; refine (callsIn_wide.2 (cut_yes [] _)).mono ?_; rintro e w' ⟨rfl, rfl⟩)
  refine ⟨_, split_results _ w.heap.size (w.heap.size + 1) none 0 0 0 _ rfl rfl ((Boxed.new w _ _).alloc _).cell (by have := (Boxed.new (w.alloc (.cells #[.slice none 0 0] 30)) 29 (.int .i64 0)).cell; rwa [World.size_alloc] at this),
    ((Below.refl _ _).alloc (Nat.le_refl _) _).alloc (by simp) _, .inr ⟨[], _, rfl, rfl, none, 0, rfl, Nat.le_refl _, rfl, by simp, fun h => by simp at h⟩⟩

/-- An append to the boxed slice: what stays. -/
theorem append_step {W w1 : World} {n₀ B : Nat} {v v' : Value} {k m : Nat} {xs ys : List Value} {tmp : Obj} (h0 : Nat) (hh : h0 ≤ n₀) (hBh : h0 ≤ B)
    (hv : Boxed W B 30 v) (hrow : W.ownsRow n₀ 9 1 v k xs) (hn₀ : n₀ ≤ W.heap.size) (hB : B < n₀) (hown' : w1.ownsRow n₀ 9 1 v' m ys) (hgrow : (W.alloc tmp).grownBy w1 v.ownBlock) :
    Boxed w1 B 30 v ∧ Boxed (w1.setCell ⟨B, 0, none⟩ v') B 30 v' ∧ (w1.setCell ⟨B, 0, none⟩ v').ownsRow n₀ 9 1 v' m ys ∧ (∀ C, KeepsFrom C W (w1.setCell ⟨B, 0, none⟩ v')) ∧
      (∀ j, j < n₀ → j ≠ B → (w1.setCell ⟨B, 0, none⟩ v').heap[j]? = W.heap[j]?) ∧ Below h0 W (w1.setCell ⟨B, 0, none⟩ v') := by
  have hrow0 : W.ownsRow h0 9 1 v k xs := own_weaken hrow hh
  have hown0 : w1.ownsRow h0 9 1 v' m ys := own_weaken hown' hh
  obtain ⟨a1, a2, _, a4, a5⟩ := hv.appended (by decide) hrow0 (Nat.le_trans hh hn₀) hBh hown0 hgrow
  have hne : ∀ r, v'.ownBlock = some r → n₀ ≤ r := fun r hr => own_base hown' r hr
  have hne0 : ∀ r, v.ownBlock = some r → n₀ ≤ r := fun r hr => own_base hrow r hr
  refine ⟨a1, a2, hown'.kept (grownBy_setCell' w1 B v') (.inr fun e => by have := hne B e; omega), fun C => a4.from C, fun j hj hjB => ?_, a5⟩
  rw [Below.heap_setCell _ _ _ _ hjB]
  rw [hgrow.block j (by simp; omega) (fun e => by have := hne0 j e.symm; omega)]
  exact Below.heap_alloc _ _ _ (by omega)

theorem row_ne {W : World} {base e k : Nat} {v : Value} {xs : List Value} {row : Option Nat} (h : W.ownsRow base e 1 v k xs) (hr : ∀ r, row = some r → ∃ o : Obj, W.heap[r]? = some o ∧ o.isCells = false) : v.ownBlock = none ∨ v.ownBlock ≠ row := by
  rcases h.2 with ⟨rfl, _⟩ | ⟨g, cap, cur, rfl, _, hgb, _⟩
  · exact .inl rfl
  · refine .inr fun e' => ?_
    obtain ⟨o, ho, hc⟩ := hr g e'.symm
    rw [hgb] at ho
    cases ho
    cases hc
theorem StB.kept {b2 : Nat} {X Y : World} (h : StB b2 X Y) {k : Nat} (hk : k ≠ b2) : Y.heap[k]? = X.heap[k]? := by
  obtain ⟨v, rfl⟩ := h
  exact Below.heap_setCell _ _ _ _ hk
theorem StB.size {b2 : Nat} {X Y : World} (h : StB b2 X Y) : Y.heap.size = X.heap.size := by
  obtain ⟨v, rfl⟩ := h
  simp [World.setCell]
theorem StB.below {b2 n : Nat} {w X Y : World} (h : StB b2 X Y) (hb : Below n w X) (hn : n ≤ b2) : Below n w Y := by
  obtain ⟨v, rfl⟩ := h
  exact hb.setCell hn v
theorem StB.row {b2 base e k : Nat} {X Y : World} {v : Value} {xs : List Value} (h : StB b2 X Y) (hr : X.ownsRow base e 1 v k xs) (hb : b2 < base) : Y.ownsRow base e 1 v k xs := by
  obtain ⟨u, rfl⟩ := h
  exact hr.kept (grownBy_setCell' X b2 u) (.inr fun e' => by have := own_base hr b2 e'; omega)
theorem all_snoc {f : Str → Bool} {pre : List Str} {x : Str} : (pre ++ [x]).all f = (pre.all f && f x) := by simp

theorem Tryz.infoStr : (Tryz.prog.info? 9).map (fun i => (i.zero, i.size, i.bytes)) = some (some (.string ⟨#[]⟩), 1, 16) := by kernel_rfl

set_option maxRecDepth 100000 in
set_option maxHeartbeats 2000000 in
theorem split_yes (r : Str) (hr : r ≠ []) (hl : r.length ≤ 4398046511103) (w : World) : Calls Tryz.prog 17 #[.string (mk (47 :: r))] w (SplitPost (47 :: r) w) := by
  obtain ⟨i0, hi, hz0, hz1, hz2⟩ := info_parts Tryz.infoStr
  refine (callsIn_wide (n := 3)).1 ?_
  refine callsIn_of_wp_marks Tryz.func17 rfl trivial ?_ rfl
  simp only [Tryz.ntmps17, List.size_toArray, List.length_cons, List.length_nil, Nat.reduceAdd, Nat.reduceSub, Array.replicate_succ, Array.replicate_zero, List.push_toArray, List.append_toArray, List.nil_append, List.cons_append]
  have ht : (mk r).toList = r := mk_list r
  have hr' : ¬ r = [] := hr
  have he : List.isEmpty r = false := by cases r <;> simp_all
  gi_wp2_with (first | (refine ⟨trivial, ?_⟩; gi_at_call 40; refine (callsIn_wide.2 (cut_yes r _)).mono ?_; rintro e w' ⟨rfl, rfl⟩) | (refine ⟨trivial, ?_⟩; gi_at_call 41; refine (callsIn_wide.2 (seq_calls r _)).mono ?_; rintro e w' ⟨rfl, rfl⟩))
  obtain ⟨h, hh⟩ : ∃ h, w.heap.size = h := ⟨_, rfl⟩
  rw [hh]
  obtain ⟨W0, hW0⟩ : ∃ W0, ((((((w.alloc (.cells #[.slice none 0 0] 30)).alloc (.cells #[.int .i64 0] 29)).alloc (.cells #[.slice none 0 0] 30)).alloc (.cells #[.string (mk r)] 9)).alloc (.cells #[.string ⟨#[47]⟩] 9)).alloc (.cells #[.int .i64 0] 3)) = W0 := ⟨_, rfl⟩
  have x0 : Boxed W0 h 30 (.slice none 0 0) := by
    rw [← hW0, ← hh]; exact ((((((Boxed.new w _ _).alloc _).alloc _).alloc _).alloc _).alloc _)
  have x1 : Boxed W0 (h + 1) 29 (.int .i64 0) := by
    have := ((((Boxed.new (w.alloc (.cells #[.slice none 0 0] 30)) 29 (.int .i64 0)).alloc (.cells #[.slice none 0 0] 30)).alloc (.cells #[.string (mk r)] 9)).alloc (.cells #[.string ⟨#[47]⟩] 9)).alloc (.cells #[.int .i64 0] 3)
    rw [World.size_alloc] at this; rw [← hW0, ← hh]; exact this
  have x2 : Boxed W0 (h + 1 + 1) 30 (.slice none 0 0) := by
    have := (((Boxed.new ((w.alloc (.cells #[.slice none 0 0] 30)).alloc (.cells #[.int .i64 0] 29)) 30 (.slice none 0 0)).alloc (.cells #[.string (mk r)] 9)).alloc (.cells #[.string ⟨#[47]⟩] 9)).alloc (.cells #[.int .i64 0] 3)
    rw [World.size_alloc, World.size_alloc] at this; rw [← hW0, ← hh]; exact this
  have hbx : Boxes (h + 1 + 1 + 1 + 1) (h + 1 + 1 + 1) (h + 1 + 1 + 1 + 2) r W0 := by
    refine ⟨?_, ?_, ?_⟩
    · have := (Boxed.new ((((w.alloc (.cells #[.slice none 0 0] 30)).alloc (.cells #[.int .i64 0] 29)).alloc (.cells #[.slice none 0 0] 30)).alloc (.cells #[.string (mk r)] 9)) 9 (.string ⟨#[47]⟩)).alloc (.cells #[.int .i64 0] 3)
      simp only [World.size_alloc, hh] at this; rw [← hW0]; exact this
    · have := ((Boxed.new (((w.alloc (.cells #[.slice none 0 0] 30)).alloc (.cells #[.int .i64 0] 29)).alloc (.cells #[.slice none 0 0] 30)) 9 (.string (mk r))).alloc (.cells #[.string ⟨#[47]⟩] 9)).alloc (.cells #[.int .i64 0] 3)
      simp only [World.size_alloc, hh] at this; rw [← hW0]; exact this
    · have := Boxed.new (((((w.alloc (.cells #[.slice none 0 0] 30)).alloc (.cells #[.int .i64 0] 29)).alloc (.cells #[.slice none 0 0] 30)).alloc (.cells #[.string (mk r)] 9)).alloc (.cells #[.string ⟨#[47]⟩] 9)) 3 (.int .i64 0)
      simp only [World.size_alloc, hh] at this; rw [← hW0]; exact this
  have hsz : W0.heap.size = h + 6 := by rw [← hW0]; simp [hh]
  have hbl : Below h w W0 := by
    rw [← hW0]
    exact ((((((Below.refl h w).alloc (by omega) _).alloc (by simp; omega) _).alloc (by simp; omega) _).alloc (by simp; omega) _).alloc (by simp; omega) _).alloc (by simp; omega) _
  rw [hW0]
  clear hW0
  refine wpIn_rangeFunc_box rfl (by omega) (gf := 84) (lb := #[.pointer (some ⟨h + 1 + 1 + 1 + 1, 0, none⟩), .pointer (some ⟨h + 1 + 1 + 1, 0, none⟩), .pointer (some ⟨h + 1 + 1 + 1 + 2, 0, none⟩)]) rfl trivial (enters_of Tryz.func84 (by kernel_rfl) rfl)
    (split_iter 2 (h + 1 + 1 + 1 + 1) (h + 1 + 1 + 1) (h + 1 + 1 + 1 + 2) (by omega) (by omega) r (by omega) W0 hbx)
    (fun a b => ⟨b.1.trans a.1, b.2.1.trans a.2.1, b.2.2.trans a.2.2⟩)
    (fun W l o' hl' => ⟨World.putObj_heap_other (by omega), World.putObj_heap_other (by omega), World.putObj_heap_other (by omega)⟩)
    (fun W o hk => ?ka) ⟨rfl, rfl, rfl⟩ (fun _ => rfl)
    (fun X Y k o hA hk hx => ?ha)
    (fun pre W => (∃ v, Boxed W (h + 1 + 1) 30 v ∧ W.ownsRow (h + 6) 9 1 v pre.length (svals pre)) ∧ Boxed W h 30 (.slice none 0 0) ∧ Boxed W (h + 1) 29 (.int .i64 0) ∧ Below h w W ∧ h + 6 ≤ W.heap.size ∧ pre.all okName = true)
    (fun c pre W => c = .ret ∧ Boxed W h 30 (.slice none 0 0) ∧ Boxed W (h + 1) 29 (.int .i64 12) ∧ Below h w W ∧ pre.all okName = false)
    ?hI ?hIx ?hIA ?hIxA ?h0
    (fun x => { tmps := #[.string (mk (47 :: r)), undef, .pointer (some ⟨h, 0, none⟩), .pointer (some ⟨h + 1, 0, none⟩), .string (mk r), .bool true, .pointer (some ⟨h + 1 + 1, 0, none⟩), .string (mk x), .tuple #[.string (mk r), .bool true], .string (mk (47 :: r)), .tuple #[.string (mk r), .bool true], .string (mk r), .bool true, .bool false, .bool true, .bool false, .bool false, .string (mk r), .bool false, .string (mk r), .func (.func 84) #[] #[.pointer (some ⟨h + 1 + 1 + 1 + 1, 0, none⟩), .pointer (some ⟨h + 1 + 1 + 1, 0, none⟩), .pointer (some ⟨h + 1 + 1 + 1 + 2, 0, none⟩)], .string (mk x), undef, undef, undef, undef, undef, undef, undef, undef], defers := [] })
    ?assign ?body ?done ?stop
  case ka =>
    have hk' := hbx.kept hk
    have l1 := (Array.getElem?_eq_some_iff.1 hk'.1).1
    have l2 := (Array.getElem?_eq_some_iff.1 hk'.2.1).1
    have l3 := (Array.getElem?_eq_some_iff.1 hk'.2.2).1
    exact ⟨(Below.heap_alloc _ _ _ l1).trans hk.1, (Below.heap_alloc _ _ _ l2).trans hk.2.1, (Below.heap_alloc _ _ _ l3).trans hk.2.2⟩
  case ha => exact (hA.kept (by omega)).trans hx
  case hI =>
    rintro pre X Y row ⟨⟨v, hv, hrow⟩, hb0, hb1, hB, hgt, hall⟩ hg hr
    have hne : ∀ B, B < h + 6 → some B ≠ row := fun B hB' e => by have := (hr B e.symm).1; omega
    exact ⟨⟨v, hv.kept hg (hne _ (by omega)), hrow.kept hg (row_ne hrow (fun q e => (hr q e).2))⟩, hb0.kept hg (hne _ (by omega)), hb1.kept hg (hne _ (by omega)), hB.grown hg (by omega) (fun k e => by have := (hr k e).1; omega), Nat.le_trans hgt hg.size, hall⟩
  case hIx =>
    rintro c pre X Y row ⟨hc, hb0, hb1, hB, hall⟩ hg hr
    have hne : ∀ B, B < h + 6 → some B ≠ row := fun B hB' e => by have := (hr B e.symm).1; omega
    have hlt := hb1.lt
    exact ⟨hc, hb0.kept hg (hne _ (by omega)), hb1.kept hg (hne _ (by omega)), hB.grown hg (by omega) (fun k e => by have := (hr k e).1; omega), hall⟩
  case hIA =>
    rintro pre X Y ⟨⟨v, hv, hrow⟩, hb0, hb1, hB, hgt, hall⟩ hs
    exact ⟨⟨v, (hs.kept (by omega)).trans hv, hs.row hrow (by omega)⟩, (hs.kept (by omega)).trans hb0, (hs.kept (by omega)).trans hb1, hs.below hB (by omega), by rw [hs.size]; exact hgt, hall⟩
  case hIxA =>
    rintro c pre X Y ⟨hc, hb0, hb1, hB, hall⟩ hs
    exact ⟨hc, (hs.kept (by omega)).trans hb0, (hs.kept (by omega)).trans hb1, hs.below hB (by omega), hall⟩
  case h0 => exact ⟨⟨_, x2, World.ownsRow_nil _ _ _ _⟩, x0, x1, hbl, by omega, rfl⟩
  case assign =>
    intro l x W K hK
    gi_wp2
    exact hK
  case body =>
    rintro l pre x W ⟨⟨v, hv, hrow⟩, hb0, hb1, hB, hgt, hall⟩ hlt hR
    have hmem : x ∈ parts r := by
      obtain ⟨t, ht'⟩ := hR
      rw [← ht']
      simp
    have hxl := parts_mem_length r x hmem
    have hpl : pre.length + 1 ≤ r.length + 1 := by
      have := hR.length_le
      have h2 := parts_length r
      simp at this
      omega
    clear hmem hR
    have HA := Lib.hid hall
    have HV := Lib.hid hv
    have HR := Lib.hid hrow
    have H0 := Lib.hid hb0
    have H1 := Lib.hid hb1
    have HB := Lib.hid hB
    clear hall hv hrow hb0 hb1 hB x0 x1 x2 hbx hbl
    have hc := HV.out.cell
    cases hok : okName x with
    | false =>
      have g0 := H0.out.cell
      have g0' := H0.out.frozen
      have g1 := H1.out.cell
      have g1' := H1.out.frozen
      have hn := Lib.hid hok
      gi_wp2_with fail
      refine ⟨trivial, ?_⟩
      refine (CallsIn.inRound l (callsIn_wide.2 (name_calls x (by omega) _))).mono ?_
      rintro e w' ⟨rfl, rfl⟩
      gi_wp2_with fail
      have k0 : Boxed (w'.setCell ⟨h, 0, none⟩ (.slice none 0 0)) h 30 (.slice none 0 0) := H0.out.set _
      have k1 : Boxed (w'.setCell ⟨h, 0, none⟩ (.slice none 0 0)) (h + 1) 29 (.int .i64 0) := (Below.heap_setCell w' ⟨h, 0, none⟩ _ (h + 1) (show h + 1 ≠ h by omega)).trans H1.out
      exact ⟨((KeepsOthers.setCell _ _ _).trans (KeepsOthers.setCell _ _ _)).from _, rfl, (Below.heap_setCell _ ⟨h + 1, 0, none⟩ _ h (show h ≠ h + 1 by omega)).trans k0, k1.set _,
        (HB.out.setCell (p := ⟨h, 0, none⟩) (Nat.le_refl _) _).setCell (p := ⟨h + 1, 0, none⟩) (show h ≤ h + 1 by omega) _, by rw [all_snoc, HA.out, hn.out]; rfl⟩
    | true =>
      have hn := Lib.hid hok
      gi_wp2_with fail
      refine ⟨trivial, ?_⟩
      refine (CallsIn.inRound l (callsIn_wide.2 (name_calls x (by omega) _))).mono ?_
      rintro e w' ⟨rfl, rfl⟩
      gi_wp2_with (gi_at_builtin; refine wpListIn_append_own _ rfl _ _ 30 rfl (h + 6) 9 i0 (.string ⟨#[]⟩) 1 16 Tryz.underlying30 hi hz0 hz1 hz2 rfl (by decide) _ _ _ rfl (HR.out.alloc _) ⟨w'.heap.size, 0, none⟩ 1 1 [.string (mk x)] rfl rfl (cell_one_new _ _ _) (by simp [Value.oneCell']) (by unfold maxLen; omega) (by omega) (by simp; omega) ?_; intro v' w1 hown' hgrow _; obtain ⟨g', cap', rfl⟩ := ownsRow_succ hown'; obtain ⟨hv1, hv2, hr2, hk2, hj2, hb2⟩ := append_step h (by omega) (by omega) HV.out HR.out hgt (by omega) hown' hgrow; have hc1 := hv1.cell; have hf1 := hv1.frozen)
      exact ⟨hk2 _, ⟨hj2 _ (by omega) (by omega), hj2 _ (by omega) (by omega), hj2 _ (by omega) (by omega)⟩, ⟨_, hv2, by rw [svals_snoc, List.length_append, List.length_singleton]; exact hr2⟩, (hj2 h (by omega) (by omega)).trans H0.out, (hj2 (h + 1) (by omega) (by omega)).trans H1.out, HB.out.trans hb2, Nat.le_trans hgt hb2.size, by rw [all_snoc, HA.out, hn.out]; rfl⟩
  case done =>
    rintro D ys W hD rfl ⟨⟨v, hv, hrow⟩, hb0, hb1, hB, hgt, hall⟩ hK
    obtain ⟨A, c, rfl⟩ := own_slice hrow
    have HA := Lib.hid hall
    have HV := Lib.hid hv
    have HR := Lib.hid hrow
    have H0 := Lib.hid hb0
    have H1 := Lib.hid hb1
    have HB := Lib.hid hB
    have HK := Lib.hid hK
    have HT := Lib.hid ht
    clear hall hv hrow hb0 hb1 hB x0 x1 x2 hbx hbl hK ht
    have hc := HV.out.cell
    have g0 := H0.out.cell
    have g0' := H0.out.frozen
    have g1 := H1.out.cell
    have g1' := H1.out.frozen
    gi_wp2_with fail
    obtain ⟨W2, hW2⟩ : ∃ W2, (W.setCell ⟨h, 0, none⟩ (.slice A (parts r).length c)).setCell ⟨h + 1, 0, none⟩ (.int .i64 0) = W2 := ⟨_, rfl⟩
    rw [hW2]
    have e0 : W2.heap[h]? = some (.cells #[.slice A (parts r).length c] 30 (0, 0)) := by
      rw [← hW2]
      exact (Below.heap_setCell _ ⟨h + 1, 0, none⟩ _ h (show h ≠ h + 1 by omega)).trans (H0.out.set _)
    have e1 : W2.heap[h + 1]? = some (.cells #[.int .i64 0] 29 (0, 0)) := by
      rw [← hW2]
      exact Boxed.set _ ((Below.heap_setCell W ⟨h, 0, none⟩ _ (h + 1) (show h + 1 ≠ h by omega)).trans H1.out)
    have e2 : W2.heap[D]? = some (.deferred (some [])) := by
      rw [← hW2]
      exact ((KeepsOthers.setCell _ _ _).trans (KeepsOthers.setCell _ _ _)).same D _ HK.out rfl
    have e3 : Below h w W2 := by
      rw [← hW2]
      exact (HB.out.setCell (p := ⟨h, 0, none⟩) (Nat.le_refl _) _).setCell (p := ⟨h + 1, 0, none⟩) (show h ≤ h + 1 by omega) _
    have e4 : W2.ownsRow (h + 6) 9 1 (.slice A (parts r).length c) (parts r).length (svals (parts r)) := by
      rw [← hW2]
      refine StB.row (b2 := h + 1) ⟨_, rfl⟩ (StB.row (b2 := h) ⟨_, rfl⟩ HR.out (by omega)) (by omega)
    clear hW2
    refine ⟨by simp, .inl ⟨_, _, rfl, run_takeDeferred e2, ?_⟩⟩
    refine ⟨_, split_results _ h (h + 1) A (parts r).length c 0 _ rfl rfl ?_ ?_, ?_, .inr ⟨parts r, _, split_ok hr HA.out, rfl, ?_⟩⟩
    · have : (W2.putObj D (.deferred none)).heap[h]? = _ := (World.putObj_heap_other (by omega)).trans e0
      exact Boxed.cell this
    · have : (W2.putObj D (.deferred none)).heap[h + 1]? = _ := (World.putObj_heap_other (by omega)).trans e1
      exact Boxed.cell this
    · rw [hh]
      exact e3.grown (grownBy_putObj' W2 D _) (by have := (Array.getElem?_eq_some_iff.1 e1).1; omega) (fun k e => by cases e; omega)
    · exact Strs.of_row (ownsRow_putObj e4 _ e2 rfl) (by have := parts_length r; omega)
  case stop =>
    rintro D c pre W hD hpre ⟨rfl, hb0, hb1, hB, hall⟩ hK
    gi_wp2_with fail
    have hno : (parts r).all okName = false := by
      obtain ⟨t, ht'⟩ := hpre
      rw [← ht', List.all_append, hall]
      rfl
    refine ⟨by simp, .inl ⟨_, _, rfl, run_takeDeferred hK, ?_⟩⟩
    refine ⟨_, split_results _ h (h + 1) none 0 0 12 _ rfl rfl ?_ ?_, ?_, .inl ⟨split_bad hr hno, rfl⟩⟩
    · have : (W.putObj D (.deferred none)).heap[h]? = _ := (World.putObj_heap_other (by omega)).trans hb0
      exact Boxed.cell this
    · have : (W.putObj D (.deferred none)).heap[h + 1]? = _ := (World.putObj_heap_other (by omega)).trans hb1
      exact Boxed.cell this
    · rw [hh]
      exact hB.grown (grownBy_putObj' W D _) (by have := hb1.lt; omega) (fun k e => by cases e; omega)

theorem split_calls (l : Str) (hl : l.length ≤ 4398046511104) (w : World) : Calls Tryz.prog 17 #[.string (mk l)] w (SplitPost l w) := by
  by_cases h : ∃ r, l = 47 :: r
  · obtain ⟨r, rfl⟩ := h
    by_cases hr : r = []
    · subst hr; exact split_root_calls w
    · exact split_yes r hr (by simp at hl; omega) w
  · exact split_no l hl (fun r e => h ⟨r, e⟩) w
end Go.Proofs.YtaccokghjpcijaaGreatDoor
set_option linter.unusedVariables false
set_option linter.unusedSimpArgs false
namespace Go.Proofs.YtaccokghjpcijaaGreatDoor
open Go Go.RowKit Go.Shelf Pp Go.Proofs.YtaccokghjpcijaaGreatDoorW.PrintWords

theorem Strs.cells {W : World} {v : Value} {ns : List Str} (h : Strs W v ns) (hne : ns ≠ []) : ∃ bk o c, v = .slice (some ⟨bk, o, none⟩) ns.length c ∧ ns.length ≤ c ∧ bk < W.heap.size ∧ ∀ j x, ns[j]? = some x → W.cell? ⟨bk, o + j, none⟩ = some (.string (mk x)) := by
  obtain ⟨A, c, hv, hc, hC⟩ := h
  have hpos : 0 < ns.length := by cases ns with | nil => exact absurd rfl hne | cons a t => simp
  obtain ⟨⟨b, o, sp⟩, rfl, hcell⟩ := hC.2.2 hpos
  have hs : (Kd.string).sz = 1 := rfl
  have all : ∀ j x, ns[j]? = some x → W.cell? ((⟨b, o, sp⟩ : Addr).add j) = some (.string (mk x)) := by
    intro j x hx
    obtain ⟨cc, _, hk, hcc⟩ := hcell j (mk x) (by simp [List.getElem?_map, hx])
    have e : cc = [.string (mk x)] := hk
    subst e
    have := hcc 0 _ rfl
    rwa [hs, Nat.mul_one, Nat.add_zero] at this
  have h0 := all 0 (ns[0]'hpos) (by simp)
  have hsp : sp = none := by
    have := World.cell?_spot h0
    simpa [Addr.add] using this
  subst hsp
  refine ⟨b, o, c, hv, hc, ?_, ?_⟩
  · have := World.block_lt_of_cell? W _ h0
    simpa [Addr.add] using this
  · intro j x hx
    have := all j x hx
    unfold Addr.add at this
    split at this
    · rename_i hj
      subst hj
      simpa using this
    · exact this
theorem Strs.mk_cells {W : World} {bk o c : Nat} {ns : List Str} (hc : ns.length ≤ c) (hm : ns.length ≤ 9223372036854775807) (h : ∀ j x, ns[j]? = some x → W.cell? ⟨bk, o + j, none⟩ = some (.string (mk x))) : Strs W (.slice (some ⟨bk, o, none⟩) ns.length c) ns := by
  refine ⟨_, c, rfl, hc, by simp, hm, fun _ => ⟨_, rfl, fun j p hj => ⟨[.string p], rfl, rfl, fun i u hu => ?_⟩⟩⟩
  have hi : i = 0 := by
    rcases Nat.eq_zero_or_pos i with h0 | h0
    · exact h0
    · rw [List.getElem?_eq_none (by simp; omega)] at hu
      cases hu
  subst hi
  have hu' : u = .string p := by simpa using hu.symm
  subst hu'
  have hs : (Kd.string).sz = 1 := rfl
  rw [hs, Nat.mul_one, Nat.add_zero]
  simp only [List.getElem?_map] at hj
  cases e : ns[j]? with
  | none => rw [e] at hj; cases hj
  | some x =>
    rw [e] at hj
    have hp : mk x = p := by simpa using hj
    have := h j x e
    rw [hp] at this
    unfold Addr.add
    split
    · rename_i hj0
      subst hj0
      simpa using this
    · exact this
theorem Strs.small {W : World} {v : Value} {ns : List Str} (h : Strs W v ns) : ns.length ≤ 9223372036854775807 := by
  obtain ⟨A, c, hv, hc, hC⟩ := h
  exact hC.2.1
theorem mk_append (a b : Str) : mk a ++ mk b = mk (a ++ b) := by
  rw [← mk_data (mk a ++ mk b)]
  congr 1

/-- strings.Join, at '/'. -/
theorem sjoin (v : Value) (ns : List Str) (w : World) (h : Strs w v ns) (hb : (join ns).length ≤ 70368744177664) (hn : ns.length ≤ 140737488355328) : Calls Tryz.prog 43 #[v, .string ⟨#[47]⟩] w fun e w' => e = .returned (.string (mk (Lib.join ns [47]))) ∧ Below w.heap.size w w' := by
  by_cases hne : ns = []
  · subst hne
    obtain ⟨A, c, rfl, _, _⟩ := h
    refine (Tryz.strings_Join_none A c ⟨#[47]⟩ w).mono ?_
    rintro e w' ⟨rfl, rfl⟩
    exact ⟨rfl, Below.refl _ _⟩
  · obtain ⟨bk, o, c, rfl, hc, hbk, hcell⟩ := h.cells hne
    have hmap : (ns.map mk).map (fun x => x.data.toList) = ns := by rw [List.map_map]; simp [Function.comp_def, mk_toList]
    have hlen : (ns.map mk).length = ns.length := by simp
    have := Tryz.strings_Join bk o c (ns.map mk) ⟨#[47]⟩ w (fun j x hx => by
      simp only [List.getElem?_map] at hx
      cases e : ns[j]? with
      | none => rw [e] at hx; cases hx
      | some y =>
        rw [e] at hx
        have : mk y = x := by simpa using hx
        rw [← this]
        exact hcell j y e) hbk (by omega) (by omega) (by rw [hmap]; unfold join at hb; simp at hb ⊢; omega)
    rw [hmap, hlen] at this
    exact this

set_option maxRecDepth 100000 in
set_option maxHeartbeats 1000000 in
theorem join_calls (v : Value) (ns : List Str) (w : World) (h : Strs w v ns) (hb : (join ns).length ≤ 70368744177664) (hn : ns.length ≤ 140737488355328) : Calls Tryz.prog 18 #[v] w fun e w' => e = .returned (.string (mk (join ns))) ∧ Below w.heap.size w w' := by
  have hs := sjoin v ns w h hb hn
  have HS := Lib.hid hs
  have HB := Lib.hid (show (mk (Lib.join ns [47])).size ≤ 70368744177664 by rw [mk_size]; unfold join at hb; simp at hb; omega)
  obtain ⟨A, c, rfl, _, _⟩ := h
  clear hs
  go_enter Tryz.func18, Tryz.ntmps18
  go_wp2_with fail
  refine HS.out.mono ?_
  rintro e w' ⟨rfl, hB⟩
  have hb' := HB.out
  have HX := Lib.hid hB
  clear hB
  go_wp2_with fail
  go_ret
  exact ⟨by rw [show (⟨#[47]⟩ : ByteArray) ++ mk (Lib.join ns [47]) = mk (47 :: Lib.join ns [47]) from mk_append [47] _]; rfl, HX.out⟩

def parentV (l : Str) : Str × Str × Int := match split l with
  | none => ([], [], 12)
  | some ns => match ns.getLast? with
    | none => ([], [], 1)
    | some x => (join ns.dropLast, x, 0)
def pv (p : Str × Str × Int) : Value := .tuple #[.string (mk p.1), .string (mk p.2.1), .int .i64 p.2.2]
theorem parentV_none {l : Str} (h : split l = none) : parentV l = ([], [], 12) := by unfold parentV; rw [h]
theorem parentV_nil {l : Str} (h : split l = some []) : parentV l = ([], [], 1) := by unfold parentV; rw [h]; rfl
theorem parentV_snoc {l : Str} {ini : List Str} {x : Str} (h : split l = some (ini ++ [x])) : parentV l = (join ini, x, 0) := by unfold parentV; rw [h]; simp
theorem snoc_of {α : Type} {l : List α} (h : l ≠ []) : ∃ ini x, l = ini ++ [x] := ⟨l.dropLast, l.getLast h, (List.dropLast_concat_getLast h).symm⟩
theorem join_snoc_length (ini : List Str) (x : Str) : (join ini).length ≤ (join (ini ++ [x])).length := by
  cases ini with
  | nil => unfold join; simp [Lib.join_nil]
  | cons a t =>
    unfold join
    rw [List.cons_append, Lib.join_cons, Lib.join_cons]
    simp [Lib.joinTail]

theorem bstep {w W W' : World} (h : Below w.heap.size w W) (k : Below W.heap.size W W') : Below w.heap.size w W' := h.trans (k.mono h.size)
theorem heldS {w1 W : World} {bk o : Nat} {x : Value} (h : w1.cell? ⟨bk, o, none⟩ = some x) (hb : Below w1.heap.size w1 W) : Below w1.heap.size w1 W ∧ W.cell? ⟨bk, o, none⟩ = some x := ⟨hb, pw_cell_below hb h⟩

set_option maxRecDepth 100000 in
set_option maxHeartbeats 1000000 in
theorem parent_calls (l : Str) (hl : l.length ≤ 4398046511104) (w : World) : Calls Tryz.prog 77 #[.string (mk l)] w fun e w' => e = .returned (pv (parentV l)) ∧ Below w.heap.size w w' := by
  have HC := Lib.hid (split_calls l hl w)
  go_enter Tryz.func77, Tryz.ntmps77
  go_wp2_with fail
  refine HC.out.mono ?_
  rintro e w1 ⟨hB, ⟨hs, rfl⟩ | ⟨ns, v, hs, rfl, hst⟩⟩
  · have HB := Lib.hid hB
    have HS := Lib.hid hs
    clear hB hs HC
    go_wp2_with fail
    go_ret3
    exact ⟨by rw [parentV_none HS.out]; rfl, HB.out⟩
  · by_cases hne : ns = []
    · subst hne
      obtain ⟨A, c, rfl, _, _⟩ := hst
      have HB := Lib.hid hB
      have HS := Lib.hid hs
      clear hB hs HC
      go_wp2_with fail
      go_ret3
      exact ⟨by rw [parentV_nil HS.out]; rfl, HB.out⟩
    · obtain ⟨ini, x, rfl⟩ := snoc_of hne
      obtain ⟨bk, o, c, rfl, hc, hbk, hcell⟩ := hst.cells hne
      have hx := hcell ini.length x (by simp)
      have hjl := split_length hs
      have hjj : (join (ini ++ [x])).length = l.length := by rw [join_split hs]
      have hj2 := join_snoc_length ini x
      have HP := Lib.hid (parentV_snoc hs)
      have hini : Strs w1 (.slice (some ⟨bk, o, none⟩) ini.length c) ini := Strs.mk_cells (by simp at hc; omega) (by simp at hjl; omega) (fun j y hy => hcell j y (by
        have hlt : j < ini.length := by
          rcases Nat.lt_or_ge j ini.length with h | h
          · exact h
          · rw [List.getElem?_eq_none h] at hy; cases hy
        rw [List.getElem?_append_left hlt, hy]))
      have HI := Lib.hid hini
      have HB := Lib.hid hB
      have HX := Lib.hid hx
      obtain ⟨m, hm⟩ : ∃ m, ini.length = m := ⟨_, rfl⟩
      have hlen : (ini ++ [x]).length = m + 1 := by simp [hm]
      rw [hlen] at hc ⊢
      rw [hm] at HI HX
      have hmb : (m : Int) ≤ 4398046511104 := by simp at hjl; omega
      have HJ := Lib.hid (show (join ini).length ≤ 70368744177664 by omega)
      have HM := Lib.hid hm
      clear hini hB hx hs hst hcell hjl hjj hj2 hlen hm hne HC
      go_wp2_with fail
      have z1 : (0 : Int) ≤ (m : Int) := Int.natCast_nonneg _
      have z2 : (m : Int) ≤ (c : Int) := by omega
      have z3 : (m : Int) < (m : Int) + 1 := by omega
      go_region_held3 (fun W => Below w1.heap.size w1 W ∧ W.cell? ⟨bk, o + m, none⟩ = some (.string (mk x))) (first | exact heldS HX.out ((Below.refl _ _).drew) | exact heldS HX.out (bstep (And.left (by assumption)) (by assumption))) (first | (go_at_call 18; refine (join_calls _ ini _ (HI.out.below (And.left (by assumption))) HJ.out (by have := HM.out; omega)).mono ?_; rintro e w2 ⟨rfl, hB2⟩))
      rename_i hHeld
      have HB2 := Lib.hid (HB.out.trans (hHeld.1.mono HB.out.size))
      clear hHeld hB2
      go_wp2_with fail
      go_ret3
      exact ⟨by rw [HP.out]; rfl, HB2.out⟩

/-! ### within -/
theorem within_none1 {a b : Str} (h : split a = none) : within a b = false := by unfold within; rw [h]
theorem within_none2 {a b : Str} (h : split b = none) : within a b = false := by unfold within; rw [h]; cases split a <;> rfl
theorem within_some {a b : Str} {k l : List Str} (h : split a = some k) (h' : split b = some l) : within a b = k.isPrefixOf l := by unfold within; rw [h, h']
theorem prefix_false {k l : List Str} (h : l.length < k.length) : k.isPrefixOf l = false := by
  cases e : k.isPrefixOf l with
  | false => rfl
  | true =>
    have := (List.isPrefixOf_iff_prefix.1 e).length_le
    omega
theorem prefix_take {k l : List Str} (h : k.length ≤ l.length) : k.isPrefixOf l = decide (k.map mk = (l.take k.length).map mk) := by
  have hinj : ∀ a b : List Str, a.map mk = b.map mk → a = b := by
    intro a b e
    have := congrArg (List.map fun x : ByteArray => x.data.toList) e
    simpa [List.map_map, Function.comp_def, mk_toList] using this
  rw [Bool.eq_iff_iff, List.isPrefixOf_iff_prefix, decide_eq_true_eq]
  constructor
  · intro hp
    rw [List.prefix_iff_eq_take.1 hp]
    simp
  · intro e
    have := hinj _ _ e
    rw [this]
    exact List.take_prefix _ _
theorem Strs.take {W : World} {bk o c : Nat} {ns : List Str} (h : Strs W (.slice (some ⟨bk, o, none⟩) ns.length c) ns) (m : Nat) (hm : m ≤ ns.length) (hne : ns ≠ []) : Strs W (.slice (some ⟨bk, o, none⟩) m c) (ns.take m) := by
  obtain ⟨bk', o', c', hv, hc, hbk, hcell⟩ := h.cells hne
  injection hv with e1 _ e2
  injection e1 with e1
  injection e1 with e1 e3
  subst e1 e2 e3
  have hl : (ns.take m).length = m := by rw [List.length_take]; omega
  have := Strs.mk_cells (W := W) (bk := bk) (o := o) (c := c) (ns := ns.take m) (by omega) (by have := h.small; omega) (fun j x hj => hcell j x (by
    have hlt : j < m := by
      rcases Nat.lt_or_ge j m with h | h
      · exact h
      · rw [List.getElem?_eq_none (by omega)] at hj; cases hj
    rwa [List.getElem?_take_of_lt hlt] at hj))
  rwa [hl] at this
theorem Strs.take' {W : World} {A : Option Addr} {c : Nat} {ns : List Str} (h : Strs W (.slice A ns.length c) ns) (m : Nat) (hm : m ≤ ns.length) : Strs W (.slice A m c) (ns.take m) := by
  by_cases hne : ns = []
  · subst hne
    have : m = 0 := by simpa using hm
    subst this
    exact h
  · obtain ⟨bk, o, c', hv, _⟩ := h.cells hne
    injection hv with e1 _ e2
    subst e1
    exact h.take m hm hne
/-- slices.Equal at strings. -/
theorem equal_calls (v u : Value) (k l : List Str) (w : World) (hv : Strs w v k) (hu : Strs w u l) (hlen : k.length = l.length) : Calls Tryz.prog 53 #[v, u] w fun e w' => e = .returned (.bool (decide (k.map mk = l.map mk))) ∧ Below w.heap.size w w' := by
  by_cases hne : k = []
  · subst hne
    have hl : l = [] := List.eq_nil_of_length_eq_zero hlen.symm
    subst hl
    obtain ⟨A, c, rfl, _, _⟩ := hv
    obtain ⟨A', c', rfl, _, _⟩ := hu
    refine (Tryz.slices_Equal_string_empty A A' c 0 c' w (by omega)).mono ?_
    rintro e w' ⟨rfl, rfl⟩
    exact ⟨rfl, Below.refl _ _⟩
  · have hne' : l ≠ [] := fun e => hne (List.eq_nil_of_length_eq_zero (by rw [hlen, e]; rfl))
    have s1 := hv.small
    have s2 := hu.small
    obtain ⟨b1, o1, c1, rfl, _, _, h1⟩ := hv.cells hne
    obtain ⟨b2, o2, c2, rfl, _, _, h2⟩ := hu.cells hne'
    have conv : ∀ (ns : List Str) (b o : Nat), (∀ j x, ns[j]? = some x → w.cell? ⟨b, o + j, none⟩ = some (.string (mk x))) → ∀ j, j < (ns.map mk).length → w.cell? ⟨b, o + j, none⟩ = some (.string ((ns.map mk).getD j ByteArray.empty)) := by
      intro ns b o h j hj
      have hj' : j < ns.length := by simpa using hj
      rw [h j ns[j] (by simp [hj'])]
      simp [List.getD_eq_getElem?_getD, hj']
    have := Tryz.slices_Equal_string b1 o1 k.length c1 b2 o2 l.length c2 (k.map mk) (l.map mk) w (by simp) (by simp) (by omega) (by omega) (conv k b1 o1 h1) (conv l b2 o2 h2)
    refine this.mono ?_
    rintro e w' ⟨rfl, q, rfl⟩
    refine ⟨?_, pw_below_drewN (Below.refl _ _) q⟩
    have e1 : (k.map mk).take k.length = k.map mk := List.take_of_length_le (by simp)
    have e2 : (l.map mk).take l.length = l.map mk := List.take_of_length_le (by simp)
    rw [e1, e2]

set_option maxRecDepth 100000 in
set_option maxHeartbeats 1000000 in
theorem within_calls (a b : Str) (ha : a.length ≤ 4398046511104) (hb : b.length ≤ 4398046511104) (w : World) : Calls Tryz.prog 25 #[.string (mk a), .string (mk b)] w fun e w' => e = .returned (.bool (within a b)) ∧ Below w.heap.size w w' := by
  have HC := Lib.hid (split_calls a ha w)
  have HD := Lib.hid (fun w1 => split_calls b hb w1)
  go_enter Tryz.func25, Tryz.ntmps25
  go_wp2_with fail
  refine HC.out.mono ?_
  rintro e w1 ⟨hB, ⟨hs, rfl⟩ | ⟨k, v, hs, rfl, hst⟩⟩
  · have HB := Lib.hid hB
    have HS := Lib.hid hs
    clear hB hs HC
    go_wp2_with fail
    refine (HD.out _).mono ?_
    rintro e w2 ⟨hB, ⟨hs, rfl⟩ | ⟨l, u, hs, rfl, hst⟩⟩
    · have HB2 := Lib.hid (HB.out.trans (hB.mono HB.out.size))
      clear hB hs HD HB
      go_wp2_with fail
      go_ret
      exact ⟨ret_bool (within_none1 HS.out).symm, HB2.out⟩
    · have HB2 := Lib.hid (HB.out.trans (hB.mono HB.out.size))
      obtain ⟨A, c, rfl, _, _⟩ := hst
      clear hB hs HD HB
      go_wp2_with fail
      go_ret
      exact ⟨ret_bool (within_none1 HS.out).symm, HB2.out⟩
  · have HB := Lib.hid hB
    have HS := Lib.hid hs
    have HV := Lib.hid hst
    obtain ⟨A, c, rfl, hkc, _⟩ := hst
    clear hB hs HC
    go_wp2_with fail
    refine (HD.out _).mono ?_
    rintro e w2 ⟨hB, ⟨hs, rfl⟩ | ⟨l, u, hs, rfl, hst⟩⟩
    · have HB2 := Lib.hid (HB.out.trans (hB.mono HB.out.size))
      have HS2 := Lib.hid hs
      clear hB hs HD HB
      go_wp2_with fail
      go_ret
      exact ⟨ret_bool (within_none2 HS2.out).symm, HB2.out⟩
    · have HB2 := Lib.hid (HB.out.trans (hB.mono HB.out.size))
      have HS2 := Lib.hid hs
      have HV2 := Lib.hid (HV.out.below hB)
      have HU := Lib.hid hst
      obtain ⟨A', c', rfl, hlc, _⟩ := hst
      have b1 := Lib.hid HV.out.small
      have b2 := Lib.hid HU.out.small
      clear hB hs HD HB HV
      have HE := Lib.hid (within_some HS.out HS2.out)
      by_cases hlt : k.length ≤ l.length
      · have z0 : (k.length : Int) ≤ (l.length : Int) := by omega
        have z1 : (k.length : Int) ≤ (c' : Int) := by omega
        have HK := Lib.hid (HU.out.take' k.length hlt)
        have hl2 := Lib.hid (show k.length = (l.take k.length).length by rw [List.length_take]; omega)
        clear HU
        go_wp2_with fail
        refine (equal_calls _ _ k (l.take k.length) _ HV2.out HK.out hl2.out).mono ?_
        rintro e w3 ⟨rfl, hB3⟩
        have HB3 := Lib.hid (HB2.out.trans (hB3.mono HB2.out.size))
        clear hB3
        go_wp2_with fail
        go_ret
        exact ⟨ret_bool (by rw [HE.out, prefix_take hlt, List.map_take]), HB3.out⟩
      · have z0 : (l.length : Int) < (k.length : Int) := by omega
        go_wp2_with fail
        go_ret
        exact ⟨ret_bool (by rw [HE.out, prefix_false (by omega)]), HB2.out⟩
end Go.Proofs.YtaccokghjpcijaaGreatDoor
