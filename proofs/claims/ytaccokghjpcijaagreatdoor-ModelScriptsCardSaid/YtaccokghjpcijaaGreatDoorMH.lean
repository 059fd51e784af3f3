import Derived.Test.YtaccokghjpcijaaGreatDoorMD
import Derived.Test.YtaccokghjpcijaaGreatDoorMB
import Derived.Laws.EntriesVeiled
import Derived.StillTailTactics
import Derived.Test.YtaccokghjpcijaaGreatDoorMG
import Derived.Deep.QuietTactic
import Derived.BigQuiet
import Derived.BigRegion
import Derived.RegionTactic
import Derived.Test.YtaccokghjpcijaaGreatDoorRows
import Derived.Test.YtaccokghjpcijaaGreatDoorCards
import Derived.Test.YtaccokghjpcijaaGreatDoorTie
import Derived.ProofKit
import Derived.OpenShut
import Derived.ShutString
import Derived.ChangeOld
import Derived.Below
import Derived.Lay
import Derived.SliceStrings
import Derived.Deep.Slices
import Derived.Deep.DeepHandedRow
import Derived.Stop.Joined
import Derived.SevenTiedAt
set_option linter.unusedVariables false
set_option linter.unusedSimpArgs false
namespace Go.Proofs.YtaccokghjpcijaaGreatDoor
open Go Go.RowKit Pp Go.Proofs.YtaccokghjpcijaaGreatDoorW.PrintWords
open Go.ChangeMaps (setBlock)

theorem new_rep {W : World} {B : Nat} (hm : MapAt W B []) (ht : W.heap[B + 1]? = some (.cells #[.map (some B), .string (mk []), .int .i64 0] 57 (0, 0))) (hr : W.heap[B + 2]? = some (.cells #[ptr (B + 1)] 59 (0, 0))) :
    Rep W (fun b => b = B ∨ b = B + 1 ∨ b = B + 2) (B + 2) (fun i => i = 0) (fun _ => B + 1) (fun _ => B) newS where
  root := hr
  zero := rfl
  dir0 := rfl
  lt i hi := by subst hi; exact Nat.one_pos
  closed i l hi hl p hp := by
    subst hi
    have : l = [] := by
      have h : (newS.node 0).ents = some [] := rfl
      rw [h] at hl; cases hl; rfl
    subst this
    cases hp
  node i hi := by subst hi; exact ⟨ht, hm⟩
  small i hi := by subst hi; exact Nat.zero_le _
  inj i j hi hj _ := hi.trans hj.symm
  minj i j hi hj _ _ _ := hi.trans hj.symm
  ft := .inr (.inr rfl)
  fl i hi := .inr (.inl rfl)
  fm i hi hd := .inl rfl
def NewPost (W : World) (e : Ending) (W' : World) : Prop := ∃ tb F, e = .returned (ptr tb) ∧ Tree W' F tb newS ∧ Below W.heap.size W W' ∧ ∀ b, F b → W.heap.size ≤ b
set_option maxRecDepth 100000 in
set_option maxHeartbeats 2000000 in
theorem new_calls (W : World) : Calls Tryz.prog 12 #[] W (NewPost W) := by
  have hmm := @run_makeMap Tryz.prog
  go_enter Tryz.func12, Tryz.ntmps12
  go_wp2_with fail
  go_ret
  refine ⟨W.heap.size + 2, fun b => b = W.heap.size ∨ b = W.heap.size + 1 ∨ b = W.heap.size + 2, rfl, ⟨⟨_, _, _, new_rep ?_ ?_ ?_⟩, ?_⟩, balloc (balloc (balloc (Below.refl _ _))), ?_⟩
  · exact ((MapAt.made W).same (Below.heap_alloc _ _ _ (by simp))).same (Below.heap_alloc _ _ _ (by simp; omega))
  · rw [Below.heap_alloc _ _ _ (by simp)]
    have := heap_alloc_new (W.alloc (.map #[] 0)) (.cells #[.map (some W.heap.size), .string (mk []), .int .i64 0] 57)
    rw [World.size_alloc] at this
    exact this
  · have := heap_alloc_new ((W.alloc (.map #[] 0)).alloc (.cells #[.map (some W.heap.size), .string (mk []), .int .i64 0] 57)) (.cells #[ptr (W.heap.size + 1)] 59)
    rw [World.size_alloc, World.size_alloc] at this
    exact this
  · rintro b (rfl | rfl | rfl) <;> simp only [World.size_alloc] <;> omega
  · rintro b (rfl | rfl | rfl) <;> omega
end Go.Proofs.YtaccokghjpcijaaGreatDoor
set_option linter.unusedVariables false
set_option linter.unusedSimpArgs false
namespace Go.Proofs.YtaccokghjpcijaaGreatDoor
open Go Go.RowKit Pp Go.Proofs.YtaccokghjpcijaaGreatDoorW.PrintWords
open Go.ChangeMaps (setBlock)

/-! ### all things, each once -/
def wt (g : St) (vis : List Nat) : Nat := (vis.map fun i => (entsOf g i).length).sum
theorem wt_append (g : St) (a b : List Nat) : wt g (a ++ b) = wt g a + wt g b := by unfold wt; rw [List.map_append, List.sum_append]
theorem wt_one (g : St) (x : Nat) : wt g [x] = (entsOf g x).length := by simp [wt]
/-- The map of what has been seen: how often, each. -/
def SeenAt (W : World) (sm : Nat) (loc : Nat → Nat) (vis : List Nat) (c : Nat) : Prop :=
  ∃ l : List (Value × Value), MapAt W sm l ∧ l.map (·.1) = vis.map (fun i => ptr (loc i)) ∧ ∀ p ∈ l, ∃ n : Nat, p.2 = .int .i64 n ∧ 1 ≤ n ∧ n ≤ c
theorem lookL_mem {l : List (Value × Value)} {k v : Value} (h : lookL l k = some v) : (k, v) ∈ l := by
  induction l with
  | nil => cases h
  | cons p l ih =>
    unfold lookL at h
    by_cases hp : p.1 = k
    · rw [if_pos hp] at h
      cases h
      rw [← hp]
      exact List.mem_cons_self
    · rw [if_neg hp] at h
      exact List.mem_cons_of_mem _ (ih h)
theorem lookL_key {l : List (Value × Value)} {k : Value} (h : k ∈ l.map (·.1)) : ∃ v, lookL l k = some v := by
  induction l with
  | nil => cases h
  | cons p l ih =>
    unfold lookL
    by_cases hp : p.1 = k
    · rw [if_pos hp]; exact ⟨_, rfl⟩
    · rw [if_neg hp]
      rw [List.map_cons] at h
      rcases List.mem_cons.1 h with h | h
      · exact absurd h.symm hp
      · exact ih h
theorem lookL_no {l : List (Value × Value)} {k : Value} (h : k ∉ l.map (·.1)) : lookL l k = none := lookL_none (fun p hp e => h (e ▸ List.mem_map.2 ⟨p, hp, rfl⟩))
theorem lookL_snoc {l : List (Value × Value)} {k v : Value} (h : lookL l k = none) : lookL (l ++ [(k, v)]) k = some v := by
  induction l with
  | nil => simp [lookL]
  | cons p l ih =>
    unfold lookL at h
    rw [List.cons_append]
    unfold lookL
    by_cases hp : p.1 = k
    · rw [if_pos hp] at h; cases h
    · rw [if_neg hp] at h ⊢; exact ih h
theorem setL_keys (l : List (Value × Value)) (k v : Value) : (setL l k v).map (·.1) = l.map (·.1) := by
  induction l with
  | nil => rfl
  | cons p l ih =>
    unfold setL
    by_cases hp : p.1 = k
    · rw [if_pos hp]; simp [hp]
    · rw [if_neg hp]; simp [ih]
theorem setL_mem {l : List (Value × Value)} {k v : Value} {p : Value × Value} (h : p ∈ setL l k v) : p ∈ l ∨ p = (k, v) := by
  induction l with
  | nil => cases h
  | cons q l ih =>
    unfold setL at h
    by_cases hq : q.1 = k
    · rw [if_pos hq] at h
      rcases List.mem_cons.1 h with h | h
      · exact .inr h
      · exact .inl (List.mem_cons_of_mem _ h)
    · rw [if_neg hq] at h
      rcases List.mem_cons.1 h with h | h
      · rw [h]; exact .inl List.mem_cons_self
      · rcases ih h with h | h
        · exact .inl (List.mem_cons_of_mem _ h)
        · exact .inr h
theorem lookL_set {l : List (Value × Value)} {k u v : Value} (h : lookL l k = some u) : lookL (setL l k v) k = some v := by
  induction l with
  | nil => cases h
  | cons p l ih =>
    unfold lookL at h
    unfold setL
    by_cases hp : p.1 = k
    · rw [if_pos hp]; unfold lookL; rw [if_pos rfl]
    · rw [if_neg hp] at h ⊢; unfold lookL; rw [if_neg hp]; exact ih h
theorem Tryz.infoThing : (Tryz.prog.info? 57).isSome = true := by kernel_rfl
theorem Tryz.infoThingSize : ∃ i, Tryz.prog.info? 57 = some i ∧ i.size ≠ 0 := by
  have h : ((Tryz.prog.info? 57).map fun i => decide (i.size ≠ 0)) = some true := by kernel_rfl
  cases e : Tryz.prog.info? 57 with
  | none => rw [e] at h; cases h
  | some i => rw [e] at h; exact ⟨i, rfl, by simpa using h⟩
theorem thingOps : KeyOps Tryz.prog 54 PtrKey := by
  obtain ⟨i, h1, h2⟩ := Tryz.infoThingSize
  exact ptrOps Tryz.underlying54 h1 h2
theorem ptr_key {W : World} {F S : Nat → Prop} {tb : Nat} {loc mloc : Nat → Nat} {g : St} (h : Rep W F tb S loc mloc g) {x : Nat} (hx : S x) : PtrKey W (ptr (loc x)) := ⟨loc x, _, _, rfl, (h.node x hx).heap⟩

/-- What is done at each thing: D says what holds when it has been done at some; H its blocks. -/
structure Doer (Rp : World → Prop) (S : Nat → Prop) (loc : Nat → Nat) (k : FuncId) (caps : Array Value) (D : (Nat → Prop) → List Nat → World → Prop) (N : Nat) : Prop where
  enters : ∀ args w, (callFunc k args).run Tryz.prog w = .ok (.enter k args) w
  lt : ∀ H vis W, D H vis W → ∀ b, H b → b < W.heap.size
  same : ∀ H vis W W', D H vis W → (∀ b, H b → W'.heap[b]? = W.heap[b]?) → W.heap.size ≤ W'.heap.size → D H vis W'
  calls : ∀ H vis x W, D H vis W → Rp W → S x → x ∉ vis → (∀ b, H b → b ≠ loc x) → vis.length + 1 ≤ N → Calls Tryz.prog k (#[ptr (loc x)] ++ caps) W fun e W' => e = .returned (.tuple #[]) ∧ ∃ H', D H' (vis ++ [x]) W' ∧ Fr H W W' ∧ ∀ b, H' b → H b ∨ W.heap.size ≤ b
section
variable (F S : Nat → Prop) (tb : Nat) (loc mloc : Nat → Nat) (g : St) (sb db wb sm : Nat) (k : FuncId) (caps : Array Value) (D : (Nat → Prop) → List Nat → World → Prop)
structure Ctx (H : Nat → Prop) (vis : List Nat) (c : Nat) (W : World) : Prop where
  rep : Rep W F tb S loc mloc g
  flt : ∀ b, F b → b < W.heap.size
  hs : W.heap[sb]? = some (.cells #[.map (some sm)] 102 (0, 0))
  hd : W.heap[db]? = some (.cells #[.func (.func k) #[] caps] 80 (0, 0))
  hw : W.heap[wb]? = some (.cells #[.func (.func 68) #[] #[ptr sb, ptr db, ptr wb]] 80 (0, 0))
  seen : SeenAt W sm loc vis c
  does : D H vis W
  hlt : ∀ b, H b → b < W.heap.size
  nodup : vis.Nodup
  ins : ∀ i ∈ vis, S i
  apart : ∀ b, H b → b ≠ sb ∧ b ≠ db ∧ b ≠ wb ∧ b ≠ sm ∧ ¬ F b
  fs : ¬ F sm
end
theorem cells_ne_map {W : World} {a b : Nat} {cs : Array Value} {t : TypeId} {l : List (Value × Value)} (h : W.heap[a]? = some (.cells cs t (0, 0))) (hm : MapAt W b l) : a ≠ b := by
  rintro rfl
  obtain ⟨es, clock, hb, _⟩ := hm
  rw [hb] at h
  cases h
theorem some_lt {W : World} {a : Nat} {o : Obj} (h : W.heap[a]? = some o) : a < W.heap.size := (Array.getElem?_eq_some_iff.1 h).1
section
variable {F S : Nat → Prop} {tb : Nat} {loc mloc : Nat → Nat} {g : St} {sb db wb sm : Nat} {k : FuncId} {caps : Array Value} {D : (Nat → Prop) → List Nat → World → Prop}
theorem Ctx.turn {H H' : Nat → Prop} {vis vis' : List Nat} {c c' : Nat} {W W' : World} (h : Ctx F S tb loc mloc g sb db wb sm k caps D H vis c W) (hf : Fr (fun b => b = sm ∨ H b) W W') (hseen : SeenAt W' sm loc vis' c') (hD : D H' vis' W') (hlt : ∀ b, H' b → b < W'.heap.size)
    (hH : ∀ b, H' b → H b ∨ W.heap.size ≤ b) (hn : vis'.Nodup) (hi : ∀ i ∈ vis', S i) : Ctx F S tb loc mloc g sb db wb sm k caps D H' vis' c' W' := by
  obtain ⟨l, hm, _, _⟩ := h.seen
  have hsb := some_lt h.hs
  have hdb := some_lt h.hd
  have hwb := some_lt h.hw
  have hsm := hm.lt
  have keep : ∀ {b : Nat} {cs : Array Value} {t : TypeId}, W.heap[b]? = some (Obj.cells cs t (0, 0)) → ¬ H b → W'.heap[b]? = W.heap[b]? := fun hb hn => hf.block _ (some_lt hb) (by
    rintro (e | e)
    · exact cells_ne_map hb hm e
    · exact hn e)
  refine { rep := h.rep.same (fun b hb => hf.block b (h.flt b hb) ?_), flt := fun b hb => Nat.lt_of_lt_of_le (h.flt b hb) hf.size, hs := (keep h.hs (fun e => (h.apart _ e).1 rfl)).trans h.hs, hd := (keep h.hd (fun e => (h.apart _ e).2.1 rfl)).trans h.hd, hw := (keep h.hw (fun e => (h.apart _ e).2.2.1 rfl)).trans h.hw, seen := hseen, does := hD, hlt := hlt, nodup := hn, ins := hi, apart := fun b hb => ?_, fs := h.fs }
  · rintro (rfl | e)
    · exact h.fs hb
    · exact (h.apart _ e).2.2.2.2 hb
  · rcases hH b hb with hb | hb
    · exact h.apart b hb
    · exact ⟨by omega, by omega, by omega, by omega, fun hf' => by have := h.flt b hf'; omega⟩
theorem sum_le (f : Nat → Nat) : ∀ (vis L : List Nat), vis.Nodup → (∀ x ∈ vis, x ∈ L) → (vis.map f).sum ≤ (L.map f).sum
  | [], L, _, _ => by simp
  | x :: vis, L, hn, hs => by
    rw [List.nodup_cons] at hn
    have hp := List.perm_cons_erase (hs x List.mem_cons_self)
    have h1 := (hp.map f).sum_nat
    rw [h1, List.map_cons, List.map_cons, List.sum_cons, List.sum_cons]
    have := sum_le f vis (L.erase x) hn.2 (fun y hy => (List.mem_erase_of_ne (fun e => hn.1 (by rw [← e]; exact hy))).2 (hs y (List.mem_cons_of_mem _ hy)))
    omega
theorem wt_le {vis : List Nat} (hn : vis.Nodup) (hl : ∀ i ∈ vis, i < g.next) : wt g vis ≤ wt g (List.range g.next) := sum_le _ _ _ hn (fun x hx => List.mem_range.2 (hl x hx))
theorem len_le {vis : List Nat} (hn : vis.Nodup) (hl : ∀ i ∈ vis, i < g.next) : vis.length ≤ g.next := by
  have := sum_le (fun _ => 1) vis (List.range g.next) hn (fun x hx => List.mem_range.2 (hl x hx))
  have e : ∀ l : List Nat, (l.map fun _ => 1).sum = l.length := fun l => by
    induction l with
    | nil => rfl
    | cons a l ih => rw [List.map_cons, List.sum_cons, ih, List.length_cons]; omega
  rw [e, e, List.length_range] at this
  exact this
variable (F S tb loc mloc g sb db wb sm k caps D) in
/-- Behind a walk from a thing: what has been seen besides. -/
def WalkPost (H : Nat → Prop) (vis : List Nat) (c x : Nat) (W : World) (e : Ending) (W' : World) : Prop :=
  e = .returned (.tuple #[]) ∧ ∃ new c' H', Ctx F S tb loc mloc g sb db wb sm k caps D H' (vis ++ new) c' W' ∧ Fr (fun b => b = sm ∨ H b) W W' ∧ (∀ b, H' b → H b ∨ W.heap.size ≤ b) ∧ c' + wt g vis ≤ c + 1 + wt g (vis ++ new) ∧ x ∈ vis ++ new ∧
    (∀ i ∈ new, ∃ ns, go g x ns = some i) ∧ ∀ i ∈ new, ∀ p ∈ entsOf g i, p.2 ∈ vis ++ new
theorem seen_look {W : World} {vis : List Nat} {c x : Nat} {l : List (Value × Value)} (hk : l.map (·.1) = vis.map (fun i => ptr (loc i))) (hv : ∀ p ∈ l, ∃ n : Nat, p.2 = .int .i64 n ∧ 1 ≤ n ∧ n ≤ c) (hx : x ∈ vis) : ∃ n : Nat, lookL l (ptr (loc x)) = some (.int .i64 n) ∧ 1 ≤ n ∧ n ≤ c := by
  obtain ⟨v, h⟩ := lookL_key (l := l) (k := ptr (loc x)) (by rw [hk]; exact List.mem_map.2 ⟨x, hx, rfl⟩)
  obtain ⟨n, e, h1, h2⟩ := hv _ (lookL_mem h)
  simp only at e
  subst e
  exact ⟨n, h, h1, h2⟩
theorem zero_int (W : World) : (zeroValue 3).run Tryz.prog W = .ok (.int .i64 0) W := by kernel_rfl
set_option maxRecDepth 100000 in
set_option maxHeartbeats 2000000 in
theorem walk_seen (hdo : Doer (fun W => Rep W F tb S loc mloc g) S loc k caps D g.next) {vis : List Nat} {c x : Nat} {H : Nat → Prop} {W : World} (hx : S x) (hC : Ctx F S tb loc mloc g sb db wb sm k caps D H vis c W) (hvis : x ∈ vis) (hc : c ≤ 4611686018427387904) :
    Calls Tryz.prog 68 #[ptr (loc x), ptr sb, ptr db, ptr wb] W (WalkPost F S tb loc mloc g sb db wb sm k caps D H vis c x W) := by
  have HC := Lib.hid hC
  have HX := Lib.hid hx
  have HV := Lib.hid hvis
  obtain ⟨l, hm, hlk, hlv⟩ := hC.seen
  have hky : ∀ p ∈ l, PtrKey W p.1 := fun p hp => by
    have : p.1 ∈ vis.map (fun i => ptr (loc i)) := by rw [← hlk]; exact List.mem_map.2 ⟨p, hp, rfl⟩
    obtain ⟨i, hi, e⟩ := List.mem_map.1 this
    rw [← e]
    exact ptr_key hC.rep (hC.ins i hi)
  obtain ⟨n, hn, hn1, hn2⟩ := seen_look (W := W) hlk hlv hvis
  have hl1 := hm.look thingOps Tryz.underlying102 (zero_int W) hky (ptr_key hC.rep hx) false
  rw [hn] at hl1
  obtain ⟨o, hrun, hm2⟩ := hm.set thingOps Tryz.underlying102 hky (val := .int .i64 ((n : Int) + 1)) (ptr_key hC.rep hx) hn
  have hF1 : Fr (fun b => b = sm ∨ H b) W (setBlock W sm o) := Fr.set o (.inl rfl)
  have hC2 : Ctx F S tb loc mloc g sb db wb sm k caps D H vis (c + 1) (setBlock W sm o) := by
    refine hC.turn hF1 ⟨_, hm2, by rw [setL_keys]; exact hlk, fun p hp => ?_⟩ (hdo.same _ _ _ _ hC.does (fun b hb => block_same (hC.apart b hb).2.2.2.1) hF1.size) (fun b hb => Nat.lt_of_lt_of_le (hC.hlt b hb) hF1.size) (fun b hb => .inl hb) hC.nodup hC.ins
    rcases setL_mem hp with hp | hp
    · obtain ⟨q, h1, h2, h3⟩ := hlv p hp
      exact ⟨q, h1, h2, by omega⟩
    · subst hp
      exact ⟨n + 1, by simp, by omega, by omega⟩
  have hky2 : ∀ p ∈ setL l (ptr (loc x)) (.int .i64 ((n : Int) + 1)), PtrKey (setBlock W sm o) p.1 := fun p hp => by
    have : p.1 ∈ vis.map (fun i => ptr (loc i)) := by rw [← hlk, ← setL_keys l (ptr (loc x)) (.int .i64 ((n : Int) + 1))]; exact List.mem_map.2 ⟨p, hp, rfl⟩
    obtain ⟨i, hi, e⟩ := List.mem_map.1 this
    rw [← e]
    exact ptr_key hC2.rep (hC2.ins i hi)
  have hl2 := hm2.look thingOps Tryz.underlying102 (zero_int _) hky2 (ptr_key hC2.rep hx) false
  rw [lookL_set hn] at hl2
  simp only [Bool.false_eq_true, if_false] at hl1 hl2
  have q1 := heap_cell hC.hs 0 _ rfl
  have q2 := heap_cell hC2.hs 0 _ rfl
  obtain ⟨W2, hW2⟩ : ∃ W2, setBlock W sm o = W2 := ⟨_, rfl⟩
  rw [hW2] at hl2 hrun q2 hC2 hF1
  have HC2 := Lib.hid hC2
  have HF := Lib.hid hF1
  have z1 : (1 : Int) < (n : Int) + 1 := by omega
  have z2 : (n : Int) ≤ 4611686018427387904 := by omega
  clear hC hx hm hlk hlv hky hn hm2 hC2 hky2 hF1 hW2 hvis hn2 hc
  unfold ptr at *
  go_enter Tryz.func68, Tryz.ntmps68
  go_wp2_with fail
  refine bodyPost_ret (v := .tuple #[]) (by simp [results, Tryz.results68, go_sem]) rfl ⟨rfl, [], c + 1, H, ?_, HF.out, fun b hb => .inl hb, ?_, ?_, (fun i hi => by cases hi), (fun i hi => by cases hi)⟩
  · rw [List.append_nil]; exact HC2.out
  · rw [List.append_nil]; omega
  · rw [List.append_nil]; exact HV.out
theorem SeenAt.same {W W' : World} {vis : List Nat} {c : Nat} (h : SeenAt W sm loc vis c) (hs : W'.heap[sm]? = W.heap[sm]?) : SeenAt W' sm loc vis c := by
  obtain ⟨l, hm, h1, h2⟩ := h
  exact ⟨l, hm.same hs, h1, h2⟩
theorem SeenAt.lt {W : World} {vis : List Nat} {c : Nat} (h : SeenAt W sm loc vis c) : sm < W.heap.size := by
  obtain ⟨l, hm, _⟩ := h
  exact hm.lt
theorem range_ents {W : World} {i : Nat} {n : Node} (hn : NodeAt W loc mloc i n) : ∃ m o, entsV mloc i n = .map m ∧ (Instr.range 55 (.map m)).run Tryz.prog W = .ok (.pointer (some ⟨W.heap.size, 0, none⟩)) (W.alloc o) ∧
    IterAt (W.alloc o) W.heap.size m ((n.ents.getD []).map (entV loc)) ((n.ents.getD []).map (entV loc)) ∧ ∀ b, m = some b → b = mloc i ∧ n.ents.isSome = true := by
  cases e : n.ents with
  | none =>
    obtain ⟨o, h1, h2⟩ := nil_range (P := Tryz.prog) (W := W) Tryz.underlying55
    exact ⟨none, o, by unfold entsV; rw [e], h1, h2, fun b h => by cases h⟩
  | some l =>
    obtain ⟨o, h1, h2⟩ := (hn.map e).range (P := Tryz.prog) Tryz.underlying55
    exact ⟨some (mloc i), o, by unfold entsV; rw [e], h1, h2, fun b h => by cases h; exact ⟨rfl, rfl⟩⟩
variable (F S tb loc mloc g sb db wb sm k caps D) in
/-- Inside a walk's loop. -/
structure Mid (H0 : Nat → Prop) (vis : List Nat) (c x : Nat) (W0 : World) (r : Nat) (m : Option Nat) (l : List (Value × Value)) (W : World) (todo : List (Value × Value)) (new : List Nat) (c' : Nat) (H : Nat → Prop) : Prop where
  it : IterAt W r m l todo
  ctx : Ctx F S tb loc mloc g sb db wb sm k caps D H (vis ++ x :: new) c' W
  rH : ¬ H r
  rF : ¬ F r
  rlow : W0.heap.size ≤ r
  mF : ∀ b, m = some b → F b
  fr : Fr (fun b => b = sm ∨ H0 b) W0 W
  hH : ∀ b, H b → H0 b ∨ W0.heap.size ≤ b
  sub : ∀ p ∈ todo, p ∈ l
  don : ∀ p ∈ l, p ∈ todo ∨ ∃ j ∈ vis ++ x :: new, p.2 = ptr (loc j)
  pot : c' + wt g vis + todo.length ≤ c + 1 + wt g (vis ++ x :: new)
  rch : ∀ i ∈ new, ∃ ns, go g x ns = some i
  cls : ∀ i ∈ new, ∀ p ∈ entsOf g i, p.2 ∈ vis ++ x :: new
theorem Ctx.iter {H : Nat → Prop} {vis : List Nat} {c r : Nat} {W W' : World} (hdo : Doer (fun W => Rep W F tb S loc mloc g) S loc k caps D g.next) (h : Ctx F S tb loc mloc g sb db wb sm k caps D H vis c W) (hF : ¬ F r) (hH : ¬ H r) (hr : ∃ m s q c, W.heap[r]? = some (.mapIter m s q c)) (hf : Fr (fun b => b = r) W W') :
    Ctx F S tb loc mloc g sb db wb sm k caps D H vis c W' := by
  obtain ⟨m, s, q, cc, hr⟩ := hr
  have hne : ∀ {b : Nat} {cs : Array Value} {t : TypeId}, W.heap[b]? = some (Obj.cells cs t (0, 0)) → b ≠ r := fun hb e => by rw [e, hr] at hb; cases hb
  have keep : ∀ {b : Nat} {cs : Array Value} {t : TypeId}, W.heap[b]? = some (Obj.cells cs t (0, 0)) → W'.heap[b]? = some (Obj.cells cs t (0, 0)) := fun hb => (hf.block _ (some_lt hb) (hne hb)).trans hb
  have hsm : sm ≠ r := fun e => by
    obtain ⟨l, ⟨es, clock, hm, _⟩, _⟩ := h.seen
    rw [e, hr] at hm
    cases hm
  have hHr : ∀ b, H b → b ≠ r := fun b hb e => hH (e ▸ hb)
  exact { rep := h.rep.same (fun b hb => hf.block b (h.flt b hb) (fun e => hF (e ▸ hb))), flt := fun b hb => Nat.lt_of_lt_of_le (h.flt b hb) hf.size, hs := keep h.hs, hd := keep h.hd, hw := keep h.hw, seen := h.seen.same (hf.block _ h.seen.lt hsm)
          does := hdo.same _ _ _ _ h.does (fun b hb => hf.block b (h.hlt b hb) (hHr b hb)) hf.size, hlt := fun b hb => Nat.lt_of_lt_of_le (h.hlt b hb) hf.size, nodup := h.nodup, ins := h.ins, apart := h.apart, fs := h.fs }
theorem entV_snd {p : Str × Nat} : (entV loc p).2 = ptr (loc p.2) := rfl
theorem Mid.end {H0 H : Nat → Prop} {vis new : List Nat} {c c' x r : Nat} {W0 W : World} {m : Option Nat} {l : List (Value × Value)} (hx : S x) (h : Mid F S tb loc mloc g sb db wb sm k caps D H0 vis c x W0 r m l W [] new c' H) (hl : ((g.node x).ents.getD []).map (entV loc) = l) :
    WalkPost F S tb loc mloc g sb db wb sm k caps D H0 vis c x W0 (.returned (.tuple #[])) W := by
  refine ⟨rfl, x :: new, c', H, h.ctx, h.fr, h.hH, ?_, by simp, fun i hi => ?_, fun i hi => ?_⟩
  · have := h.pot
    simpa using this
  · rcases List.mem_cons.1 hi with rfl | hi
    · exact ⟨[], rfl⟩
    · exact h.rch i hi
  · rcases List.mem_cons.1 hi with rfl | hi
    · intro p hp
      have hpl : entV loc p ∈ l := by rw [← hl]; exact List.mem_map.2 ⟨p, hp, rfl⟩
      rcases h.don _ hpl with hd | ⟨j, hj, e⟩
      · cases hd
      · rw [entV_snd] at e
        have hSp : S p.2 := by
          cases he : (g.node i).ents with
          | none => unfold entsOf at hp; rw [he] at hp; cases hp
          | some l' => unfold entsOf at hp; rw [he] at hp; exact h.ctx.rep.closed i l' hx he p hp
        rw [h.ctx.rep.inj p.2 j hSp (h.ctx.ins j hj) (ptr_inj e)]
        exact hj
    · exact h.cls i hi
theorem Mid.step {H0 H H2 : Nat → Prop} {vis new new2 : List Nat} {c c' c2 x r : Nat} {W0 W wn w5 : World} {m : Option Nat} {l todo todo' : List (Value × Value)} {q : Str × Nat} (hI : Inv g) (h : Mid F S tb loc mloc g sb db wb sm k caps D H0 vis c x W0 r m l W todo new c' H)
    (hq : q ∈ (g.node x).ents.getD []) (hit : IterAt wn r m l todo') (hF1 : Fr (fun b => b = r) W wn) (hperm : (entV loc q :: todo').Perm todo) (hCn : Ctx F S tb loc mloc g sb db wb sm k caps D H (vis ++ x :: new) c' wn)
    (hC2 : Ctx F S tb loc mloc g sb db wb sm k caps D H2 ((vis ++ x :: new) ++ new2) c2 w5) (hF2 : Fr (fun b => b = sm ∨ H b) wn w5) (hH2 : ∀ b, H2 b → H b ∨ wn.heap.size ≤ b) (hp2 : c2 + wt g (vis ++ x :: new) ≤ c' + 1 + wt g ((vis ++ x :: new) ++ new2))
    (hx2 : q.2 ∈ (vis ++ x :: new) ++ new2) (hr2 : ∀ i ∈ new2, ∃ ns, go g q.2 ns = some i) (hc2 : ∀ i ∈ new2, ∀ p ∈ entsOf g i, p.2 ∈ (vis ++ x :: new) ++ new2) :
    Mid F S tb loc mloc g sb db wb sm k caps D H0 vis c x W0 r m l w5 todo' (new ++ new2) c2 H2 := by
  have happ : (vis ++ x :: new) ++ new2 = vis ++ x :: (new ++ new2) := by simp
  rw [happ] at hC2 hp2 hx2 hc2
  have hrsm : r ≠ sm := fun e => by
    obtain ⟨_, _, _, _, hr⟩ := hit.block
    obtain ⟨l', ⟨es, clock, hm, _⟩, _⟩ := hCn.seen
    rw [e, hm] at hr
    cases hr
  have hsz := hF1.size
  have hlen := hperm.length_eq
  rw [List.length_cons] at hlen
  refine { it := hit.same (hF2.block r hit.lt (by rintro (e | e); exact hrsm e; exact h.rH e)) (fun b hb => hF2.block b (hCn.flt b (h.mF b hb)) (by
      rintro (e | e)
      · exact hCn.fs (e ▸ h.mF b hb)
      · exact (hCn.apart b e).2.2.2.2 (h.mF b hb))), ctx := hC2, rH := fun e => ?_, rF := h.rF, rlow := h.rlow, mF := h.mF, fr := ?_, hH := fun b hb => ?_, sub := fun p hp => h.sub p (hperm.mem_iff.1 (List.mem_cons_of_mem _ hp)), don := fun p hp => ?_, pot := ?_, rch := fun i hi => ?_, cls := fun i hi => ?_ }
  · rcases hH2 r e with e | e
    · exact h.rH e
    · have := hit.lt; omega
  · refine ⟨hF2.os.trans (hF1.os.trans h.fr.os), hF2.tape.trans (hF1.tape.trans h.fr.tape), hF2.output.trans (hF1.output.trans h.fr.output), by have := h.fr.size; have := hF2.size; omega, fun b hb hn => ?_⟩
    have h0 := h.fr.size
    have hlow := h.rlow
    rw [hF2.block b (by omega) (by
      rintro (e | e)
      · exact hn (.inl e)
      · rcases h.hH b e with e | e
        · exact hn (.inr e)
        · omega), hF1.block b (by omega) (by omega), h.fr.block b hb hn]
  · rcases hH2 b hb with hb | hb
    · exact h.hH b hb
    · have := h.fr.size; exact .inr (by omega)
  · rcases h.don p hp with hd | ⟨j, hj, e⟩
    · rcases List.mem_cons.1 (hperm.mem_iff.2 hd) with hd | hd
      · exact .inr ⟨q.2, hx2, by rw [hd]; rfl⟩
      · exact .inl hd
    · refine .inr ⟨j, ?_, e⟩
      rw [← happ]
      exact List.mem_append_left _ hj
  · have := h.pot
    omega
  · rcases List.mem_append.1 hi with hi | hi
    · exact h.rch i hi
    · obtain ⟨ns, hns⟩ := hr2 i hi
      refine ⟨q.1 :: ns, ?_⟩
      rw [go_cons, (look_iff (hI.nodup x)).2 hq]
      exact hns
  · rcases List.mem_append.1 hi with hi | hi
    · intro p hp
      rw [← happ]
      exact List.mem_append_left _ (h.cls i hi p hp)
    · exact hc2 i hi
def leftAt (W : World) (r : Nat) : Nat := match W.heap[r]? with
  | some (.mapIter (some b) _ seen _) => match W.heap[b]? with
    | some (.map es _) => (leftOf es seen).size
    | _ => 0
  | _ => 0
theorem IterAt.left {W : World} {r : Nat} {m : Option Nat} {l todo : List (Value × Value)} (h : IterAt W r m l todo) : leftAt W r = todo.length := by
  cases m with
  | none =>
    obtain ⟨rfl, rfl, hr⟩ := h
    unfold leftAt
    rw [hr]
    rfl
  | some b =>
    obtain ⟨es, clock, since, seen, c0, hb, _, _, hr, _, _, rfl, _⟩ := h
    unfold leftAt
    rw [hr]
    simp only [hb]
    simp
set_option maxRecDepth 100000 in
set_option maxHeartbeats 4000000 in
theorem walk_new (hI : Inv g) (hdo : Doer (fun W => Rep W F tb S loc mloc g) S loc k caps D g.next) {vis : List Nat} {c x : Nat} {H : Nat → Prop} {W : World} (hx : S x) (hC : Ctx F S tb loc mloc g sb db wb sm k caps D H vis c W) (hvis : x ∉ vis)
    (hc : c + 1 + wt g (List.range g.next) ≤ 2305843009213693952 + wt g vis)
    (ih : ∀ vis' c' H' x' W', vis.length < vis'.length → S x' → Ctx F S tb loc mloc g sb db wb sm k caps D H' vis' c' W' → c' + 1 + wt g (List.range g.next) ≤ 2305843009213693952 + wt g vis' →
      Calls Tryz.prog 68 #[ptr (loc x'), ptr sb, ptr db, ptr wb] W' (WalkPost F S tb loc mloc g sb db wb sm k caps D H' vis' c' x' W')) :
    Calls Tryz.prog 68 #[ptr (loc x), ptr sb, ptr db, ptr wb] W (WalkPost F S tb loc mloc g sb db wb sm k caps D H vis c x W) := by
  have HC := Lib.hid hC
  have HX := Lib.hid hx
  have HV := Lib.hid hvis
  have HIH := Lib.hid ih
  have HI := Lib.hid hI
  have HCC := Lib.hid hc
  obtain ⟨l, hm, hlk, hlv⟩ := hC.seen
  have hky : ∀ p ∈ l, PtrKey W p.1 := fun p hp => by
    have : p.1 ∈ vis.map (fun i => ptr (loc i)) := by rw [← hlk]; exact List.mem_map.2 ⟨p, hp, rfl⟩
    obtain ⟨i, hi, e⟩ := List.mem_map.1 this
    rw [← e]
    exact ptr_key hC.rep (hC.ins i hi)
  have hn : lookL l (ptr (loc x)) = none := lookL_no (fun hm => by
    rw [hlk] at hm
    obtain ⟨i, hi, e⟩ := List.mem_map.1 hm
    exact hvis (hC.rep.inj i x (hC.ins i hi) hx (ptr_inj e) ▸ hi))
  have hl1 := hm.look thingOps Tryz.underlying102 (zero_int W) hky (ptr_key hC.rep hx) false
  rw [hn] at hl1
  obtain ⟨o, hrun, hm2⟩ := hm.put thingOps Tryz.underlying102 hky (val := .int .i64 1) (ptr_key hC.rep hx) hn
  have hF1 : Fr (fun b => b = sm ∨ H b) W (setBlock W sm o) := Fr.set o (.inl rfl)
  have hrep2 : Rep (setBlock W sm o) F tb S loc mloc g := hC.rep.same (fun b hb => block_same (fun e => hC.fs (e ▸ hb)))
  have hseen2 : SeenAt (setBlock W sm o) sm loc (vis ++ [x]) (c + 1) := by
    refine ⟨_, hm2, by rw [List.map_append, List.map_append, hlk]; rfl, fun p hp => ?_⟩
    rcases List.mem_append.1 hp with hp | hp
    · obtain ⟨q, h1, h2, h3⟩ := hlv p hp
      exact ⟨q, h1, h2, by omega⟩
    · have : p = (ptr (loc x), .int .i64 1) := by simpa using hp
      subst this
      exact ⟨1, rfl, by omega, by omega⟩
  have hD2 : D H vis (setBlock W sm o) := hdo.same _ _ _ _ hC.does (fun b hb => block_same (hC.apart b hb).2.2.2.1) hF1.size
  have hky2 : ∀ p ∈ l ++ [(ptr (loc x), .int .i64 1)], PtrKey (setBlock W sm o) p.1 := fun p hp => by
    rcases List.mem_append.1 hp with hp | hp
    · have : p.1 ∈ vis.map (fun i => ptr (loc i)) := by rw [← hlk]; exact List.mem_map.2 ⟨p, hp, rfl⟩
      obtain ⟨i, hi, e⟩ := List.mem_map.1 this
      rw [← e]
      exact ptr_key hrep2 (hC.ins i hi)
    · have : p = (ptr (loc x), .int .i64 1) := by simpa using hp
      subst this
      exact ptr_key hrep2 hx
  have hl2 := hm2.look thingOps Tryz.underlying102 (zero_int _) hky2 (ptr_key hrep2 hx) false
  rw [lookL_snoc hn] at hl2
  simp only [Bool.false_eq_true, if_false] at hl1 hl2
  have keep2 : ∀ {b : Nat} {cs : Array Value} {t : TypeId}, W.heap[b]? = some (Obj.cells cs t (0, 0)) → (setBlock W sm o).heap[b]? = some (Obj.cells cs t (0, 0)) := fun hb => (block_same (cells_ne_map hb hm)).trans hb
  have q1 : W.cell? ⟨sb, 0, none⟩ = some (.map (some sm)) := heap_cell hC.hs 0 _ rfl
  have q2 : (setBlock W sm o).cell? ⟨sb, 0, none⟩ = some (.map (some sm)) := heap_cell (keep2 hC.hs) 0 _ rfl
  have q3 : (setBlock W sm o).cell? ⟨db, 0, none⟩ = some (.func (.func k) #[] caps) := heap_cell (keep2 hC.hd) 0 _ rfl
  have hdc := hdo.calls H vis x (setBlock W sm o) hD2 hrep2 hx hvis (fun b hb e => (hC.apart b hb).2.2.2.2 (e ▸ hC.rep.fl x hx)) (by
    have := len_le (g := g) (vis := x :: vis) (List.nodup_cons.2 ⟨hvis, hC.nodup⟩) (fun i hi => by
      rcases List.mem_cons.1 hi with rfl | hi
      · exact hC.rep.lt i hx
      · exact hC.rep.lt i (hC.ins i hi))
    simpa using this)
  obtain ⟨W2, hW2⟩ : ∃ W2, setBlock W sm o = W2 := ⟨_, rfl⟩
  rw [hW2] at hl2 hrun q2 q3 hF1 hrep2 hseen2 hdc
  have HDC := Lib.hid hdc
  have HF := Lib.hid hF1
  have HR2 := Lib.hid hrep2
  have HS2 := Lib.hid hseen2
  have HDO := Lib.hid hdo
  have hent := hdo.enters
  clear hC hx hm hlk hlv hky hn hm2 hky2 hF1 hW2 hvis hc keep2 hdc hrep2 hseen2 hD2 ih hdo hI
  unfold ptr at hl1 hl2 hrun HDC ⊢
  go_enter Tryz.func68, Tryz.ntmps68
  go_wp2_with fail
  refine HDC.out.mono ?_
  rintro e w3 ⟨rfl, H3, hD3, hF3, hH3⟩
  have hC := HC.out
  have hfr : Fr (fun b => b = sm ∨ H b) W w3 := HF.out.trans (hF3.mono (fun b _ hb => .inr hb))
  have hH : ∀ b, H3 b → H b ∨ W.heap.size ≤ b := fun b hb => by
    rcases hH3 b hb with h | h
    · exact .inl h
    · exact .inr (Nat.le_trans HF.out.size h)
  have hC3 : Ctx F S tb loc mloc g sb db wb sm k caps D H3 (vis ++ [x]) (c + 1) w3 := hC.turn hfr (HS2.out.same (hF3.block _ HS2.out.lt (fun e => (hC.apart _ e).2.2.2.1 rfl))) hD3 (HDO.out.lt _ _ _ hD3) hH
    (by rw [List.nodup_append]; exact ⟨hC.nodup, by simp, fun a ha b hb e => HV.out (by rw [List.mem_singleton] at hb; rw [← hb, ← e]; exact ha)⟩)
    (fun i hi => by
      rcases List.mem_append.1 hi with hi | hi
      · exact hC.ins i hi
      · rw [List.mem_singleton] at hi; subst hi; exact HX.out)
  have hN := hC3.rep.node x HX.out
  obtain ⟨m, o3, hev, hrange, hit, hmm⟩ := range_ents hN
  have hxc : w3.cell? ⟨loc x, 0, none⟩ = some (.map m) := by
    have := heap_cell hN.heap 0 _ rfl
    rw [hev] at this
    exact this
  have hzl := hN.loc_lt
  obtain ⟨w4, hw4⟩ : ∃ w4, w3.alloc o3 = w4 := ⟨_, rfl⟩
  obtain ⟨r, hr⟩ : ∃ r, w3.heap.size = r := ⟨_, rfl⟩
  have hb34 : Below w3.heap.size w3 w4 := by rw [← hw4]; exact balloc (Below.refl _ _)
  rw [hw4, hr] at hrange hit
  have hC4 : Ctx F S tb loc mloc g sb db wb sm k caps D H3 (vis ++ [x]) (c + 1) w4 := hC3.turn (Fr.of_below hb34) (hC3.seen.same (hb34.block _ hC3.seen.lt)) (HDO.out.same _ _ _ _ hD3 (fun b hb => hb34.block _ (hC3.hlt b hb)) hb34.size) (fun b hb => Nat.lt_of_lt_of_le (hC3.hlt b hb) hb34.size) (fun b hb => .inl hb) hC3.nodup hC3.ins
  obtain ⟨l, hl⟩ : ∃ l, ((g.node x).ents.getD []).map (entV loc) = l := ⟨_, rfl⟩
  rw [hl] at hit
  have hMid : Mid F S tb loc mloc g sb db wb sm k caps D H vis c x W r m l w4 l [] (c + 1) H3 := {
    it := hit, ctx := hC4, rH := fun e => by have := hC3.hlt _ e; omega, rF := fun e => by have := hC3.flt _ e; omega, rlow := by have := hfr.size; omega, mF := fun b hb => by
      obtain ⟨e1, e2⟩ := hmm b hb
      rw [e1]
      exact hC3.rep.fm x HX.out e2
    fr := hfr.trans (Fr.of_below hb34), hH := hH, sub := fun p hp => hp, don := fun p hp => .inl hp
    pot := by
      rw [wt_append, wt_one, ← hl, List.length_map]
      show _ ≤ c + 1 + (wt g vis + (entsOf g x).length)
      unfold entsOf
      omega
    rch := fun i hi => by cases hi
    cls := fun i hi => by cases hi }
  have HM := Lib.hid hMid
  have HL := Lib.hid hl
  have HMM := Lib.hid hmm
  have HHr := Lib.hid hr
  clear hC hfr hH hC3 hN hev hit hmm hw4 hr hb34 hC4 hl hMid hD3 hF3 hH3 hl1 hl2 hrun q1 q2 q3 hent HDC
  go_wp2_with fail
  go_loopw [6] (fun _ wr => ∃ todo new c' H', Hid (Mid F S tb loc mloc g sb db wb sm k caps D H vis c x W r m l wr todo new c' H')) (fun _ wr => leftAt wr r)
  case atStart => exact ⟨_, _, _, _, HM⟩
  case round =>
    obtain ⟨todo, new, c', H', HM'⟩ := hrel
    rcases HM'.out.it.next (P := Tryz.prog) 0 with ⟨h0, hrun⟩ | ⟨p, todo', o', w1, hw1, hrun, hperm, hit', hon⟩
    · have HZ := Lib.hid h0
      clear h0
      go_wp2_with fail
      go_end0
      exact Mid.end HX.out (HZ.out ▸ HM'.out) HL.out
    · have hent := hon.entry (P := Tryz.prog)
      have hM := HM'.out
      have hpl : p ∈ l := hM.sub p (hperm.mem_iff.1 List.mem_cons_self)
      obtain ⟨q, hq, hpq⟩ : ∃ q ∈ (g.node x).ents.getD [], entV loc q = p := by rw [← HL.out] at hpl; exact List.mem_map.1 hpl
      have hF1 : Fr (fun b => b = r) wr (setBlock w1 r o') := by
        rcases hw1 with rfl | rfl
        · exact Fr.set o' rfl
        · exact (Fr.refl _ _).drew.trans (Fr.set o' rfl)
      have hrlt := hM.it.lt
      have hwb := some_lt hM.ctx.hw
      obtain ⟨wn, hwn⟩ : ∃ wn, setBlock w1 r o' = wn := ⟨_, rfl⟩
      rw [hwn] at hrun hit' hent hF1
      have hCn : Ctx F S tb loc mloc g sb db wb sm k caps D H' (vis ++ x :: new) c' wn := hM.ctx.iter HDO.out hM.rF hM.rH hM.it.block hF1
      have q3 : wn.cell? ⟨wb, 0, none⟩ = some (.func (.func 68) #[] #[ptr sb, ptr db, ptr wb]) := heap_cell hCn.hw 0 _ rfl
      subst hpq
      have HCn := Lib.hid hCn
      have HIt := Lib.hid hit'
      have HF1 := Lib.hid hF1
      have HP := Lib.hid hperm
      have HQ := Lib.hid hq
      clear hon hM hpl hq hF1 hrlt hwb hwn hCn hperm hit' hw1
      unfold entV ptr at hrun hent
      unfold ptr at q3
      go_wp2_with fail
      refine (HIH.out (vis ++ x :: new) c' H' q.2 wn ?_ ?_ HCn.out ?_).mono ?_
      · simp
      · have hq := HQ.out
        cases he : (g.node x).ents with
        | none => rw [he] at hq; cases hq
        | some l' => rw [he] at hq; exact HCn.out.rep.closed x l' HX.out he q hq
      · have h1 := HM'.out.pot
        have h2 := HCC.out
        have h3 := HP.out.length_eq
        rw [List.length_cons] at h3
        omega
      rintro e w5 ⟨rfl, new2, c2, H2, hC2, hF2, hH2, hp2, hx2, hr2, hc2⟩
      have hMid2 : Mid F S tb loc mloc g sb db wb sm k caps D H vis c x W r m l w5 todo' (new ++ new2) c2 H2 := HM'.out.step HI.out HQ.out HIt.out HF1.out HP.out HCn.out hC2 hF2 hH2 hp2 hx2 hr2 hc2
      have HM2 := Lib.hid hMid2
      have HLT := Lib.hid (show leftAt w5 r < leftAt wr r by rw [hMid2.it.left, HM'.out.it.left]; have := HP.out.length_eq; rw [List.length_cons] at this; omega)
      clear hMid2 hC2 hF2 hH2 hp2 hx2 hr2 hc2 hrun hent
      go_wp2_with fail
      go_roundw
      case rel => exact ⟨_, _, _, _, HM2⟩
      case measure => exact HLT.out
theorem walk_calls (hI : Inv g) (hdo : Doer (fun W => Rep W F tb S loc mloc g) S loc k caps D g.next) : ∀ (m : Nat) (vis : List Nat) (c : Nat) (H : Nat → Prop) (x : Nat) (W : World), g.next - vis.length ≤ m → S x → Ctx F S tb loc mloc g sb db wb sm k caps D H vis c W →
    c + 1 + wt g (List.range g.next) ≤ 2305843009213693952 + wt g vis →
    Calls Tryz.prog 68 #[ptr (loc x), ptr sb, ptr db, ptr wb] W (WalkPost F S tb loc mloc g sb db wb sm k caps D H vis c x W) := by
  intro m
  induction m with
  | zero =>
    intro vis c H x W hm hx hC hc
    have hlt : ∀ i ∈ vis, i < g.next := fun i hi => hC.rep.lt i (hC.ins i hi)
    have h1 := wt_le hC.nodup hlt
    by_cases hv : x ∈ vis
    · exact walk_seen hdo hx hC hv (by omega)
    · exfalso
      have := len_le (g := g) (vis := x :: vis) (List.nodup_cons.2 ⟨hv, hC.nodup⟩) (fun i hi => by
        rcases List.mem_cons.1 hi with rfl | hi
        · exact hC.rep.lt i hx
        · exact hlt i hi)
      rw [List.length_cons] at this
      omega
  | succ m ih =>
    intro vis c H x W hm hx hC hc
    have hlt : ∀ i ∈ vis, i < g.next := fun i hi => hC.rep.lt i (hC.ins i hi)
    have h1 := wt_le hC.nodup hlt
    by_cases hv : x ∈ vis
    · exact walk_seen hdo hx hC hv (by omega)
    · exact walk_new hI hdo hx hC hv hc (fun vis' c' H' x' W' hl hx' hC' hc' => ih vis' c' H' x' W' (by omega) hx' hC' hc')
theorem closed_reach {vis : List Nat} (h0 : ∀ i ∈ vis, ∀ p ∈ entsOf g i, p.2 ∈ vis) : ∀ (ns : List Str) (i j : Nat), i ∈ vis → go g i ns = some j → j ∈ vis
  | [], i, j, hi, hg => by cases hg; exact hi
  | n :: ns, i, j, hi, hg => by
    rw [go_cons] at hg
    cases hl : look (entsOf g i) n with
    | none => rw [hl] at hg; cases hg
    | some y => rw [hl] at hg; exact closed_reach h0 ns y j (h0 i hi _ (look_mem hl)) hg
end
end Go.Proofs.YtaccokghjpcijaaGreatDoor
set_option linter.unusedVariables false
set_option linter.unusedSimpArgs false
namespace Go.Proofs.YtaccokghjpcijaaGreatDoor
open Go Go.RowKit Pp Go.Proofs.YtaccokghjpcijaaGreatDoorW.PrintWords
open Go.ChangeMaps (setBlock)

section
variable {F S : Nat → Prop} {tb : Nat} {loc mloc : Nat → Nat} {g : St} {k : FuncId} {caps : Array Value} {D : (Nat → Prop) → List Nat → World → Prop}
variable (F S tb loc mloc g D) in
/-- Behind all: each thing that a path leads to has been done, once. -/
def AllPost (H : Nat → Prop) (W : World) (e : Ending) (W' : World) : Prop :=
  e = .returned (.tuple #[]) ∧ ∃ vis H', Rep W' F tb S loc mloc g ∧ D H' vis W' ∧ Fr H W W' ∧ (∀ b, H' b → H b ∨ W.heap.size ≤ b) ∧ (∀ b, H' b → b < W'.heap.size) ∧ (∀ b, H' b → ¬ F b) ∧ vis.Nodup ∧ ∀ i, i ∈ vis ↔ ∃ ns, go g 0 ns = some i
theorem all_post {H : Nat → Prop} {W W1 W' : World} {e : Ending} {sb db wb sm : Nat} (hB : Below W.heap.size W W1) (hsm : W.heap.size ≤ sm)
    (h : WalkPost F S tb loc mloc g sb db wb sm k caps D H [] 0 0 W1 e W') : AllPost F S tb loc mloc g D H W e W' := by
  obtain ⟨rfl, new, c', H', hC, hf, hH, _, h0, hr, hc⟩ := h
  rw [List.nil_append] at hC h0
  refine ⟨rfl, new, H', hC.rep, hC.does, ⟨hf.os.trans hB.os, hf.tape.trans hB.tape, hf.output.trans hB.output, Nat.le_trans hB.size hf.size, fun b hb hn => ?_⟩, fun b hb => ?_, hC.hlt, fun b hb => (hC.apart b hb).2.2.2.2, hC.nodup, fun i => ⟨hr i, fun ⟨ns, hg⟩ => closed_reach (fun i hi p hp => by simpa using hc i hi p hp) ns 0 i h0 hg⟩⟩
  · rw [hf.block b (Nat.lt_of_lt_of_le hb hB.size) (by
      rintro (e | e)
      · omega
      · exact hn e), hB.block b hb]
  · rcases hH b hb with hb | hb
    · exact .inl hb
    · have := hB.size; exact .inr (by omega)
set_option maxRecDepth 100000 in
set_option maxHeartbeats 4000000 in
theorem all_calls (hI : Inv g) (hdo : Doer (fun W => Rep W F tb S loc mloc g) S loc k caps D g.next) {H : Nat → Prop} {W : World} (hR : Rep W F tb S loc mloc g) (hF : ∀ b, F b → b < W.heap.size) (hD : D H [] W) (hHF : ∀ b, H b → ¬ F b) (hT : wt g (List.range g.next) ≤ 1152921504606846976) :
    Calls Tryz.prog 44 #[ptr tb, .func (.func k) #[] caps] W (AllPost F S tb loc mloc g D H W) := by
  obtain ⟨W1, hW1⟩ : ∃ W1, (((W.alloc (.cells #[.func (.func k) #[] caps] 80)).alloc (.map #[] 0)).alloc (.cells #[.map (some (W.heap.size + 1))] 102)).alloc (.cells #[.func (.func 68) #[] #[ptr (W.heap.size + 1 + 1), ptr W.heap.size, ptr (W.heap.size + 1 + 1 + 1)]] 80) = W1 := ⟨_, rfl⟩
  have hbl : Below W.heap.size W W1 := by rw [← hW1]; exact balloc (balloc (balloc (balloc (Below.refl _ _))))
  have hsz : W1.heap.size = W.heap.size + 4 := by rw [← hW1]; simp
  have hdb : W1.heap[W.heap.size]? = some (.cells #[.func (.func k) #[] caps] 80 (0, 0)) := by
    rw [← hW1, Below.heap_alloc _ _ _ (by simp; try omega), Below.heap_alloc _ _ _ (by simp; try omega), Below.heap_alloc _ _ _ (by simp)]
    exact heap_alloc_new _ _
  have hsm : MapAt W1 (W.heap.size + 1) [] := by
    rw [← hW1]
    have := MapAt.made (W.alloc (.cells #[.func (.func k) #[] caps] 80))
    rw [World.size_alloc] at this
    exact (this.same (Below.heap_alloc _ _ _ (by simp))).same (Below.heap_alloc _ _ _ (by simp; try omega))
  have hsb : W1.heap[W.heap.size + 1 + 1]? = some (.cells #[.map (some (W.heap.size + 1))] 102 (0, 0)) := by
    rw [← hW1, Below.heap_alloc _ _ _ (by simp)]
    have := heap_alloc_new ((W.alloc (.cells #[.func (.func k) #[] caps] 80)).alloc (.map #[] 0)) (.cells #[.map (some (W.heap.size + 1))] 102)
    rw [World.size_alloc, World.size_alloc] at this
    exact this
  have hwb : W1.heap[W.heap.size + 1 + 1 + 1]? = some (.cells #[.func (.func 68) #[] #[ptr (W.heap.size + 1 + 1), ptr W.heap.size, ptr (W.heap.size + 1 + 1 + 1)]] 80 (0, 0)) := by
    rw [← hW1]
    have := heap_alloc_new (((W.alloc (.cells #[.func (.func k) #[] caps] 80)).alloc (.map #[] 0)).alloc (.cells #[.map (some (W.heap.size + 1))] 102)) (.cells #[.func (.func 68) #[] #[ptr (W.heap.size + 1 + 1), ptr W.heap.size, ptr (W.heap.size + 1 + 1 + 1)]] 80)
    rw [World.size_alloc, World.size_alloc, World.size_alloc] at this
    exact this
  have hHlt := hdo.lt _ _ _ hD
  have hC : Ctx F S tb loc mloc g (W.heap.size + 1 + 1) W.heap.size (W.heap.size + 1 + 1 + 1) (W.heap.size + 1) k caps D H [] 0 W1.drew := {
    rep := (hR.below hbl).drew, flt := fun b hb => by have := hF b hb; show b < W1.heap.size; omega, hs := hsb, hd := hdb, hw := hwb
    seen := ⟨[], hsm, rfl, fun p hp => by cases hp⟩
    does := hdo.same _ _ _ _ hD (fun b hb => hbl.block b (hHlt b hb)) (by show _ ≤ W1.heap.size; omega)
    hlt := fun b hb => by have := hHlt b hb; show b < W1.heap.size; omega
    nodup := List.nodup_nil, ins := fun i hi => by cases hi
    apart := fun b hb => by have := hHlt b hb; exact ⟨by omega, by omega, by omega, by omega, hHF b hb⟩
    fs := fun h => by have := hF _ h; omega }
  have hz := hR.root_cell
  have q1 : W1.cell? ⟨tb, 0, none⟩ = some (ptr (loc 0)) := (hR.below hbl).root_cell
  have q2 : W1.cell? ⟨W.heap.size + 1 + 1 + 1, 0, none⟩ = some (.func (.func 68) #[] #[ptr (W.heap.size + 1 + 1), ptr W.heap.size, ptr (W.heap.size + 1 + 1 + 1)]) := heap_cell hwb 0 _ rfl
  have HW := Lib.hid hW1
  have HB := Lib.hid hbl
  have hw := walk_calls hI hdo g.next [] 0 H 0 W1.drew (Nat.sub_le _ _) hR.zero hC (by omega)
  have HWK := Lib.hid hw
  have hmm := @run_makeMap Tryz.prog
  clear hW1 hbl hsz hdb hsm hsb hwb hHlt hC hz hw hI hdo hD hF hR hHF
  unfold ptr at *
  go_enter Tryz.func44, Tryz.ntmps44
  go_wp2_with fail
  rw [HW.out]
  go_still_tail 5, (by kernel_rfl)
  go_wp2_with fail
  refine HWK.out.mono ?_
  rintro e w5 hP
  have hA := Lib.hid (all_post (W := W) (W1 := W1.drew) HB.out.drew (Nat.le_succ _) hP)
  obtain ⟨rfl, _⟩ := hP
  go_wp2_with fail
  go_end0
  exact hA.out
end
end Go.Proofs.YtaccokghjpcijaaGreatDoor
set_option linter.unusedVariables false
set_option linter.unusedSimpArgs false
namespace Go.Proofs.YtaccokghjpcijaaGreatDoor
open Go Go.RowKit Pp Go.Proofs.YtaccokghjpcijaaGreatDoorW.PrintWords

/-! ### Count -/
def filesN (g : St) (vis : List Nat) : Nat := (vis.filter fun i => !isDir g i).length
def dirsN (g : St) (vis : List Nat) : Nat := (vis.filter fun i => isDir g i).length
def bytesN (g : St) (vis : List Nat) : Nat := ((vis.filter fun i => !isDir g i).map fun i => (g.node i).bytes.length).sum
theorem files_dir {g : St} {vis : List Nat} {x : Nat} (h : isDir g x = true) : filesN g (vis ++ [x]) = filesN g vis ∧ dirsN g (vis ++ [x]) = dirsN g vis + 1 ∧ bytesN g (vis ++ [x]) = bytesN g vis := by
  unfold filesN dirsN bytesN
  simp [List.filter_append, h]
theorem files_file {g : St} {vis : List Nat} {x : Nat} (h : isDir g x = false) : filesN g (vis ++ [x]) = filesN g vis + 1 ∧ dirsN g (vis ++ [x]) = dirsN g vis ∧ bytesN g (vis ++ [x]) = bytesN g vis + (g.node x).bytes.length := by
  unfold filesN dirsN bytesN
  simp [List.filter_append, h]
theorem count_bounds {g : St} (hs : ∀ i, (g.node i).bytes.length ≤ 16384) (vis : List Nat) : filesN g vis ≤ vis.length ∧ dirsN g vis ≤ vis.length ∧ bytesN g vis ≤ 16384 * vis.length := by
  refine ⟨List.length_filter_le _ _, List.length_filter_le _ _, ?_⟩
  unfold bytesN
  induction vis with
  | nil => simp
  | cons x vis ih =>
    rw [List.filter_cons, List.length_cons]
    split
    · rw [List.map_cons, List.sum_cons]
      have := hs x
      omega
    · omega
/-- The counters, behind some things. -/
structure CntD (g : St) (fb db bb : Nat) (H : Nat → Prop) (vis : List Nat) (W : World) : Prop where
  own : ∀ b, H b ↔ b = fb ∨ b = db ∨ b = bb
  files : W.heap[fb]? = some (.cells #[.int .i64 (filesN g vis)] 3 (0, 0))
  dirs : W.heap[db]? = some (.cells #[.int .i64 (dirsN g vis)] 3 (0, 0))
  bytes : W.heap[bb]? = some (.cells #[.int .i64 (bytesN g vis)] 3 (0, 0))
set_option maxRecDepth 100000 in
set_option maxHeartbeats 2000000 in
theorem count1_calls {g : St} {F S : Nat → Prop} {tb : Nat} {loc mloc : Nat → Nat} {fb db bb : Nat} (h1 : fb ≠ db) (h2 : fb ≠ bb) (h3 : db ≠ bb) {vis : List Nat} {x : Nat} {H : Nat → Prop} {W : World} (hN : vis.length + 1 ≤ 1099511627776) (hs : ∀ i, (g.node i).bytes.length ≤ 16384) (hD : CntD g fb db bb H vis W) (hR : Rep W F tb S loc mloc g) (hx : S x) (hH : ∀ b, H b → b ≠ loc x) :
    Calls Tryz.prog 51 #[ptr (loc x), ptr db, ptr fb, ptr bb] W fun e W' => e = .returned (.tuple #[]) ∧ ∃ H', CntD g fb db bb H' (vis ++ [x]) W' ∧ Fr H W W' ∧ ∀ b, H' b → H b ∨ W.heap.size ≤ b := by
  have hxh := (hR.node x hx).heap
  obtain ⟨b1, b2, b3⟩ := count_bounds hs vis
  have hsx := hs x
  have HD := Lib.hid hD
  have f1 := heap_cell hD.files 0 _ rfl
  have f2 := heap_cell hD.dirs 0 _ rfl
  have f3 := heap_cell hD.bytes 0 _ rfl
  have g1 := frozen_of_row _ _ 0 _ _ hD.files
  have g2 := frozen_of_row _ _ 0 _ _ hD.dirs
  have g3 := frozen_of_row _ _ 0 _ _ hD.bytes
  have hxc0 := heap_cell hxh 0 _ rfl
  have hxc1 : W.cell? ⟨loc x, 1, none⟩ = some (.string (mk (g.node x).bytes)) := heap_cell hxh 1 _ rfl
  cases hdx : isDir g x with
  | true =>
    obtain ⟨e1, e2, e3⟩ := files_dir (vis := vis) hdx
    rw [show entsV mloc x (g.node x) = .map (some (mloc x)) by unfold entsV; rw [dir_entsOf hdx]] at hxc0
    have HC := Lib.hid (dir_calls W (loc x) _ hxc0)
    have HE1 := Lib.hid e1
    have HE2 := Lib.hid e2
    have HE3 := Lib.hid e3
    clear e1 e2 e3 hxh hR hD hdx
    unfold ptr at *
    go_enter Tryz.func51, Tryz.ntmps51
    go_wp2_with fail
    refine HC.out.mono ?_
    rintro e w1 ⟨rfl, rfl⟩
    go_wp2_with fail
    go_end0
    have hD := HD.out
    refine ⟨rfl, H, ⟨hD.own, ?_, ?_, ?_⟩, Fr.cell (p := ⟨db, 0, none⟩) _ ((hD.own db).2 (.inr (.inl rfl))), fun b hb => .inl hb⟩
    · rw [HE1.out, Below.heap_setCell _ _ _ _ h1]; exact hD.files
    · rw [HE2.out, heap_setCell_same _ _ 0 _ _ _ hD.dirs]; simp
    · rw [HE3.out, Below.heap_setCell _ _ _ _ (Ne.symm h3)]; exact hD.bytes
  | false =>
    obtain ⟨e1, e2, e3⟩ := files_file (vis := vis) hdx
    have he : (g.node x).ents = none := by unfold isDir at hdx; cases h : (g.node x).ents with | none => rfl | some l => rw [h] at hdx; cases hdx
    rw [show entsV mloc x (g.node x) = .map none by unfold entsV; rw [he]] at hxc0
    have HC := Lib.hid (dir_calls W (loc x) _ hxc0)
    have HE1 := Lib.hid e1
    have HE2 := Lib.hid e2
    have HE3 := Lib.hid e3
    obtain ⟨s, hs2⟩ : ∃ s, (g.node x).bytes = s := ⟨_, rfl⟩
    rw [hs2] at hxc1 HE3 hsx
    have hss : (mk s).size = s.length := mk_size s
    clear e1 e2 e3 hxh hR hD hdx he hs2
    unfold ptr at *
    go_enter Tryz.func51, Tryz.ntmps51
    go_wp2_with fail
    refine HC.out.mono ?_
    rintro e w1 ⟨rfl, rfl⟩
    go_wp2_with fail
    have hD := HD.out
    have k1 : (w1.setCell ⟨fb, 0, none⟩ (.int .i64 ((filesN g vis : Int) + 1))).heap[fb]? = some (.cells #[.int .i64 ((filesN g vis : Int) + 1)] 3 (0, 0)) := by rw [heap_setCell_same _ _ 0 _ _ _ hD.files]; simp
    have k2 : (w1.setCell ⟨fb, 0, none⟩ (.int .i64 ((filesN g vis : Int) + 1))).heap[db]? = some (.cells #[.int .i64 (dirsN g vis)] 3 (0, 0)) := by rw [Below.heap_setCell _ _ _ _ (Ne.symm h1)]; exact hD.dirs
    have k3 : (w1.setCell ⟨fb, 0, none⟩ (.int .i64 ((filesN g vis : Int) + 1))).heap[bb]? = some (.cells #[.int .i64 (bytesN g vis)] 3 (0, 0)) := by rw [Below.heap_setCell _ _ _ _ (Ne.symm h2)]; exact hD.bytes
    have k4 : (w1.setCell ⟨fb, 0, none⟩ (.int .i64 ((filesN g vis : Int) + 1))).cell? ⟨loc x, 1, none⟩ = some (.string (mk s)) := (cell_same (Below.heap_setCell _ _ _ _ (fun e => hH fb ((hD.own fb).2 (.inl rfl)) e.symm)) 1).trans hxc1
    have hfr : Fr H w1 (w1.setCell ⟨fb, 0, none⟩ (.int .i64 ((filesN g vis : Int) + 1))) := Fr.cell (p := ⟨fb, 0, none⟩) _ ((hD.own fb).2 (.inl rfl))
    have q3 := heap_cell k3 0 _ rfl
    have qf := frozen_of_row _ _ 0 _ _ k3
    have HK1 := Lib.hid k1
    have HK2 := Lib.hid k2
    have HK3 := Lib.hid k3
    have HFR := Lib.hid hfr
    clear k1 k2 k3 hfr hD f1 f2 f3 g1 g2 g3 hxc0 hxc1 HC
    generalize w1.setCell ⟨fb, 0, none⟩ (.int .i64 ((filesN g vis : Int) + 1)) = w2 at *
    go_region
    go_wp2_with fail
    go_end0
    refine ⟨rfl, H, ⟨HD.out.own, ?_, ?_, ?_⟩, HFR.out.trans (Fr.cell (p := ⟨bb, 0, none⟩) _ ((HD.out.own bb).2 (.inr (.inr rfl)))).drew, fun b hb => .inl hb⟩
    · rw [HE1.out]; exact (Below.heap_setCell _ _ _ _ h2).trans HK1.out
    · rw [HE2.out]; exact (Below.heap_setCell _ _ _ _ h3).trans HK2.out
    · rw [HE3.out]
      refine (heap_setCell_same _ _ 0 _ _ _ HK3.out).trans ?_
      simp
theorem cnt_ret {a b c a' b' c' : Int} (h1 : a = a') (h2 : b = b') (h3 : c = c') : Ending.returned (.tuple #[.int .i64 a, .int .i64 b, .int .i64 c]) = .returned (.tuple #[.int .i64 a', .int .i64 b', .int .i64 c']) := by rw [h1, h2, h3]
/-- The things that a path leads to. -/
noncomputable def reachL (g : St) : List Nat := (List.range g.next).filter fun i => @decide (∃ ns, go g 0 ns = some i) (Classical.propDecidable _)
theorem reach_perm {g : St} (hI : Inv g) {vis : List Nat} (hn : vis.Nodup) (h : ∀ i, i ∈ vis ↔ ∃ ns, go g 0 ns = some i) : vis.Perm (reachL g) := by
  refine (List.perm_ext_iff_of_nodup hn (List.filter_sublist.nodup List.nodup_range)).2 (fun i => ?_)
  rw [List.mem_filter, h, List.mem_range]
  constructor
  · rintro ⟨ns, hg⟩
    exact ⟨go_lt hI hI.pos hg, by simp only [decide_eq_true_eq]; exact ⟨ns, hg⟩⟩
  · rintro ⟨_, hd⟩
    simpa using hd
theorem files_perm {g : St} {a b : List Nat} (h : a.Perm b) : filesN g a = filesN g b ∧ dirsN g a = dirsN g b ∧ bytesN g a = bytesN g b :=
  ⟨(h.filter _).length_eq, (h.filter _).length_eq, ((h.filter _).map _).sum_nat⟩
noncomputable def countF (g : St) : Nat := filesN g (reachL g)
noncomputable def countD (g : St) : Nat := dirsN g (reachL g)
noncomputable def countB (g : St) : Nat := bytesN g (reachL g)
def CountPost (W : World) (F : Nat → Prop) (tb : Nat) (g : St) (e : Ending) (W' : World) : Prop := e = .returned (.tuple #[.int .i64 (countF g), .int .i64 (countD g), .int .i64 (countB g)]) ∧ Tree W' F tb g ∧ Below W.heap.size W W'
set_option maxRecDepth 100000 in
set_option maxHeartbeats 2000000 in
theorem count_calls {W : World} {F : Nat → Prop} {tb : Nat} {g : St} (h : Tree W F tb g) (hI : Inv g) (hT : wt g (List.range g.next) ≤ 1152921504606846976) (hN : g.next ≤ 1099511627776) : Calls Tryz.prog 23 #[ptr tb] W (CountPost W F tb g) := by
  obtain ⟨⟨S, loc, mloc, hr⟩, hF⟩ := h
  obtain ⟨W1, hW1⟩ : ∃ W1, ((W.alloc (.cells #[.int .i64 0] 3)).alloc (.cells #[.int .i64 0] 3)).alloc (.cells #[.int .i64 0] 3) = W1 := ⟨_, rfl⟩
  have hbl : Below W.heap.size W W1 := by rw [← hW1]; exact balloc (balloc (balloc (Below.refl _ _)))
  have hsz : W1.heap.size = W.heap.size + 3 := by rw [← hW1]; simp
  have k1 : W1.heap[W.heap.size]? = some (.cells #[.int .i64 0] 3 (0, 0)) := by
    rw [← hW1, Below.heap_alloc _ _ _ (by simp; try omega), Below.heap_alloc _ _ _ (by simp)]
    exact heap_alloc_new _ _
  have k2 : W1.heap[W.heap.size + 1]? = some (.cells #[.int .i64 0] 3 (0, 0)) := by
    rw [← hW1, Below.heap_alloc _ _ _ (by simp)]
    have := heap_alloc_new (W.alloc (.cells #[.int .i64 0] 3)) (.cells #[.int .i64 0] 3)
    rw [World.size_alloc] at this
    exact this
  have k3 : W1.heap[W.heap.size + 1 + 1]? = some (.cells #[.int .i64 0] 3 (0, 0)) := by
    rw [← hW1]
    have := heap_alloc_new ((W.alloc (.cells #[.int .i64 0] 3)).alloc (.cells #[.int .i64 0] 3)) (.cells #[.int .i64 0] 3)
    rw [World.size_alloc, World.size_alloc] at this
    exact this
  have hdo : Doer (fun W => Rep W F tb S loc mloc g) S loc 51 #[ptr (W.heap.size + 1), ptr W.heap.size, ptr (W.heap.size + 1 + 1)] (CntD g W.heap.size (W.heap.size + 1) (W.heap.size + 1 + 1)) g.next := {
    enters := enters_of Tryz.func51 (by kernel_rfl) rfl
    lt := fun H vis W' hD b hb => by
      rcases (hD.own b).1 hb with rfl | rfl | rfl
      · exact some_lt hD.files
      · exact some_lt hD.dirs
      · exact some_lt hD.bytes
    same := fun H vis W' W'' hD hs _ => ⟨hD.own, (hs _ ((hD.own _).2 (.inl rfl))).trans hD.files, (hs _ ((hD.own _).2 (.inr (.inl rfl)))).trans hD.dirs, (hs _ ((hD.own _).2 (.inr (.inr rfl)))).trans hD.bytes⟩
    calls := fun H vis x W' hD hR hx _ hH hn => count1_calls (by omega) (by omega) (by omega) (by omega) hI.small hD hR hx hH }
  have hc := all_calls hI hdo (H := fun b => b = W.heap.size ∨ b = W.heap.size + 1 ∨ b = W.heap.size + 1 + 1) (hr.below hbl) (fun b hb => by have := hF b hb; omega) ⟨fun b => Iff.rfl, k1, k2, k3⟩ (fun b hb hf => by have := hF b hf; omega) hT
  have HC := Lib.hid hc
  have HW := Lib.hid hW1
  have HB := Lib.hid hbl
  have HI := Lib.hid hI
  clear hW1 hbl hsz k1 k2 k3 hdo hc hr hT hN hI
  unfold ptr at *
  go_enter Tryz.func23, Tryz.ntmps23
  go_wp2_with fail
  rw [HW.out]
  refine HC.out.mono ?_
  rintro e w2 ⟨rfl, vis, H', hRep, hD, hFr, hH, hlt, hHF, hn, hv⟩
  have HV := Lib.hid (reach_perm HI.out hn hv)
  have HD := Lib.hid hD
  have HR := Lib.hid hRep
  have HFr := Lib.hid hFr
  have q1 := heap_cell hD.files 0 _ rfl
  have q2 := heap_cell hD.dirs 0 _ rfl
  have q3 := heap_cell hD.bytes 0 _ rfl
  clear hRep hD hFr hH hlt hHF hn hv
  go_wp2_with fail
  go_quiet (fail)
  go_wp2_with fail
  go_ret3
  obtain ⟨e1, e2, e3⟩ := files_perm (g := g) HV.out
  refine ⟨cnt_ret (by rw [e1]; rfl) (by rw [e2]; rfl) (by rw [e3]; rfl), ⟨⟨S, loc, mloc, HR.out.drewN nq⟩, fun b hb => Nat.lt_of_lt_of_le (hF b hb) (Nat.le_trans HB.out.size HFr.out.size)⟩, pw_below_drewN (HB.out.trans ((HFr.out.below HB.out.size (fun k hk => by omega)))) nq⟩
set_option maxRecDepth 100000 in
set_option maxHeartbeats 2000000 in
theorem count_nil (W : World) : Calls Tryz.prog 23 #[.pointer none] W fun e W' => e = .returned (.tuple #[.int .i64 0, .int .i64 0, .int .i64 0]) ∧ Below W.heap.size W W' := by
  go_enter Tryz.func23, Tryz.ntmps23
  go_wp2_with fail
  go_ret3
  exact ⟨rfl, balloc (balloc (balloc (Below.refl _ _)))⟩
end Go.Proofs.YtaccokghjpcijaaGreatDoor
set_option linter.unusedVariables false
set_option linter.unusedSimpArgs false
namespace Go.Proofs.YtaccokghjpcijaaGreatDoor
open Go Go.RowKit Pp Go.Proofs.YtaccokghjpcijaaGreatDoorW.PrintWords

theorem sum_bump {f f' : Nat → Nat} {d : Nat} (h : ∀ i, f' i ≤ f i + if i = d then 1 else 0) : ∀ (L : List Nat), L.Nodup → (L.map f').sum ≤ (L.map f).sum + if d ∈ L then 1 else 0
  | [], _ => by simp
  | x :: L, hn => by
    rw [List.nodup_cons] at hn
    have ih := sum_bump h L hn.2
    have hx := h x
    rw [List.map_cons, List.map_cons, List.sum_cons, List.sum_cons]
    by_cases hxd : x = d
    · subst hxd
      rw [if_pos rfl] at hx
      rw [if_neg hn.1] at ih
      rw [if_pos List.mem_cons_self]
      omega
    · rw [if_neg hxd] at hx
      by_cases hd : d ∈ L
      · rw [if_pos hd] at ih
        rw [if_pos (List.mem_cons_of_mem _ hd)]
        omega
      · rw [if_neg hd] at ih
        have : d ∉ x :: L := fun e => by
          rcases List.mem_cons.1 e with e | e
          · exact hxd e.symm
          · exact hd e
        rw [if_neg this]
        omega
theorem tot_turn {g g' : St} (hN : g'.next = g.next) (d : Nat) (h : ∀ i, (entsOf g' i).length ≤ (entsOf g i).length + if i = d then 1 else 0) : wt g' (List.range g'.next) ≤ wt g (List.range g.next) + 1 ∧ g'.next ≤ g.next + 1 := by
  refine ⟨?_, by omega⟩
  rw [hN]
  have := sum_bump h (List.range g.next) List.nodup_range
  unfold wt
  split at this <;> omega
theorem tot_same {g g' : St} (hN : g'.next = g.next) (h : ∀ i, (entsOf g' i).length ≤ (entsOf g i).length) : wt g' (List.range g'.next) ≤ wt g (List.range g.next) + 1 ∧ g'.next ≤ g.next + 1 :=
  tot_turn hN 0 (fun i => Nat.le_trans (h i) (Nat.le_add_right _ _))
theorem layed_len {g : St} {d x i : Nat} {n : Str} : (entsOf (addLink (addEnt g d n x) x 1) i).length ≤ (entsOf g i).length + if i = d then 1 else 0 := by
  rw [ents_layed]
  by_cases h : i = d
  · subst h; rw [if_pos rfl, if_pos rfl]; simp
  · rw [if_neg h, if_neg h]; omega
theorem made_tot {g : St} (h : Inv g) (s : Str) {n : Node} (hn : n.ents = none ∨ n.ents = some []) : wt (made g s n).1 (List.range (made g s n).1.next) ≤ wt g (List.range g.next) + 1 ∧ (made g s n).1.next ≤ g.next + 1 := by
  rcases made_cases h s hn with ⟨c, _, _, e⟩ | ⟨d, nm, hf, e⟩
  · rw [e]; exact ⟨Nat.le_succ _, Nat.le_succ _⟩
  · rw [e]
    refine ⟨?_, Nat.le_refl _⟩
    have h1 := sum_bump (f := fun i => (entsOf g i).length) (f' := fun i => (entsOf (addLink (addEnt (fresh g n) d nm g.next) g.next 1) i).length) (d := d) (fun i => by
      have := layed_len (g := fresh g n) (d := d) (x := g.next) (i := i) (n := nm)
      rwa [ents_fresh h hn] at this) (List.range (g.next + 1)) List.nodup_range
    have h2 : ((List.range (g.next + 1)).map fun i => (entsOf g i).length).sum = wt g (List.range g.next) := by
      rw [List.range_succ, List.map_append, List.sum_append]
      show _ + ([(entsOf g g.next).length]).sum = _
      rw [beyond_ents h (Nat.le_refl _)]
      simp [wt]
    show ((List.range (g.next + 1)).map fun i => (entsOf (addLink (addEnt (fresh g n) d nm g.next) g.next 1) i).length).sum ≤ _
    rw [h2] at h1
    split at h1 <;> omega
theorem cut_len {g : St} {d y i : Nat} {n : Str} {k : Int} : (entsOf (delEnt (addLink g y k) d n) i).length ≤ (entsOf g i).length := by
  rw [ents_delEnt]
  by_cases h : i = d
  · subst h; rw [if_pos rfl, ents_addLink]; exact List.length_filter_le _ _
  · rw [if_neg h, ents_addLink]; exact Nat.le_refl _
theorem cut_tot {g : St} (h : Inv g) {s : Str} {x : Nat} (hl : leads g s = .ok x) (hs : s ≠ [47]) : wt (cut g s) (List.range (cut g s).next) ≤ wt g (List.range g.next) + 1 ∧ (cut g s).next ≤ g.next + 1 := by
  obtain ⟨p, n, ns, d, hp, _, hlp, _, hd, hlk, _⟩ := leads_last h hl hs
  rw [cut_eq hp hlp hlk]
  exact tot_same rfl (fun i => cut_len)
theorem step_tot {g : St} (h : Inv g) (o : Ask) : wt (step g o).1 (List.range (step g o).1.next) ≤ wt g (List.range g.next) + 1 ∧ (step g o).1.next ≤ g.next + 1 := by
  have hsame : wt g (List.range g.next) ≤ wt g (List.range g.next) + 1 ∧ g.next ≤ g.next + 1 := ⟨by omega, by omega⟩
  unfold step
  split
  · exact made_tot h _ (.inl rfl)
  split
  · exact made_tot h _ (.inr rfl)
  split
  · unfold linkS
    cases hk : kind g o.path false with
    | error e => exact hsame
    | ok x =>
      unfold lay
      cases hf : free g o.dst with
      | error e => simp only [hf]; exact hsame
      | ok p => simp only [hf]; exact tot_turn rfl p.1 (fun i => layed_len)
  split
  · unfold unlinkS
    cases hk : kind g o.path false with
    | error e => exact hsame
    | ok x => exact cut_tot h (kind_ok hk).1 (kind_root h hk)
  split
  · unfold rmdirS
    by_cases hr : o.path = [47]
    · rw [if_pos hr]; exact hsame
    · rw [if_neg hr]
      cases hk : kind g o.path true with
      | error e => exact hsame
      | ok x =>
        simp only
        by_cases he : 0 < (entsOf g x).length
        · rw [if_pos he]; exact hsame
        · rw [if_neg he]; exact cut_tot h (kind_ok hk).1 hr
  split
  · rcases rename_cases h o with ⟨c, _, e⟩ | ⟨g', k, l, x, d1, d2, n1, n2, e, _, _, _, _, m⟩
    · rw [e]; exact hsame
    · rw [e]
      refine tot_turn m.next d2 (fun i => ?_)
      rw [m.ents]
      have hmid : (if i = d2 then entsOf g i ++ [(n2, x)] else entsOf g i).length ≤ (entsOf g i).length + if i = d2 then 1 else 0 := by
        by_cases hi : i = d2
        · rw [if_pos hi, if_pos hi]; simp
        · rw [if_neg hi, if_neg hi]; omega
      by_cases hi : i = d1
      · rw [if_pos hi]; exact Nat.le_trans (List.length_filter_le _ _) hmid
      · rw [if_neg hi]; exact hmid
  split
  · rw [read_same]; exact hsame
  split
  · rcases write_cases (g := g) o with ⟨c, e, _⟩ | ⟨x, hk, h1, h2, e⟩
    · rw [e]; exact hsame
    · rw [e]
      simp only
      split
      · exact hsame
      · exact tot_same rfl (fun i => by rw [setB_entsOf]; exact Nat.le_refl _)
  split
  · unfold truncS
    cases hk : kind g o.path false with
    | error c => exact hsame
    | ok x =>
      simp only
      split
      · exact hsame
      split
      · exact hsame
      · exact tot_same (g' := setB g x _) rfl (fun i => by rw [setB_entsOf]; exact Nat.le_refl _)
  split
  · rw [stat_same]; exact hsame
  split
  · rw [list_same]; exact hsame
  · exact hsame
/-- What holds of a tree behind at most k ops. -/
structure Fine (k : Nat) (g : St) : Prop where
  good : Good k g
  tot : wt g (List.range g.next) ≤ k
  nx : g.next ≤ k + 1
theorem new_fine : Fine 0 newS := ⟨new_good, by decide, by decide⟩
theorem Fine.step {k : Nat} {g : St} (h : Fine k g) (hk : k ≤ 1000000) (o : Ask) : Fine (k + 1) (step g o).1 := by
  obtain ⟨h1, h2⟩ := step_tot h.good.inv o
  exact ⟨h.good.step hk o, by have := h.tot; omega, by have := h.nx; omega⟩
theorem Fine.mono {k k' : Nat} {g : St} (h : Fine k g) (hk : k ≤ k') : Fine k' g := ⟨h.good.mono hk, Nat.le_trans h.tot hk, by have := h.nx; omega⟩
theorem Fine.ents {k : Nat} {g : St} (h : Fine k g) (i : Nat) : (entsOf g i).length ≤ k := by
  by_cases hi : i < g.next
  · have h1 := sum_le (fun i => (entsOf g i).length) [i] (List.range g.next) (by simp) (fun x hx => by rw [List.mem_singleton] at hx; subst hx; exact List.mem_range.2 hi)
    have := h.tot
    unfold wt at this
    simp at h1
    omega
  · rw [beyond_ents h.good.inv (by omega)]
    exact Nat.zero_le _
/-- Do, of a tree behind few ops. -/
theorem do_fine {W : World} {F : Nat → Prop} {tb : Nat} {g : St} {k : Nat} (h : Tree W F tb g) (hf : Fine k g) (hk : k < 100) (o : Ask) (hp : o.path.length ≤ 4398046511104) (hd : o.dst.length ≤ 4398046511104) (hda : o.data.length ≤ 4398046511104) :
    Calls Tryz.prog 13 #[ptr tb, opV o] W (OpPost W F tb g (step g o)) :=
  do_calls h o hp hd hda hf.good.inv (fun i => by have := hf.ents i; omega) (LinksOk.few fun i => by have := hf.good.links i; omega)
/-- .. behind more ops, where the table that Itoa reads is laid. -/
theorem do_fine_tab {W : World} {F : Nat → Prop} {tb : Nat} {g : St} {k : Nat} (h : Tree W F tb g) (hf : Fine k g) (hk : k < 1000) (ht : TabW W) (o : Ask) (hp : o.path.length ≤ 4398046511104) (hd : o.dst.length ≤ 4398046511104) (hda : o.data.length ≤ 4398046511104) :
    Calls Tryz.prog 13 #[ptr tb, opV o] W (OpPost W F tb g (step g o)) :=
  do_calls h o hp hd hda hf.good.inv (fun i => by have := hf.ents i; omega) ⟨fun i => by have := hf.good.links i; omega, .inl ht⟩
theorem count_fine {W : World} {F : Nat → Prop} {tb : Nat} {g : St} {k : Nat} (h : Tree W F tb g) (hf : Fine k g) (hk : k ≤ 1000000) : Calls Tryz.prog 23 #[ptr tb] W (CountPost W F tb g) :=
  count_calls h hf.good.inv (by have := hf.tot; omega) (by have := hf.nx; omega)
end Go.Proofs.YtaccokghjpcijaaGreatDoor
set_option linter.unusedVariables false
set_option linter.unusedSimpArgs false
namespace Go.Proofs.YtaccokghjpcijaaGreatDoor
open Go Go.RowKit Pp Go.Proofs.YtaccokghjpcijaaGreatDoorW.PrintWords

/-! ### one tree, op by op -/
/-- What was there is there, but in the blocks of F; new blocks of the tree are new. -/
structure Ext (F : Nat → Prop) (W : World) (F' : Nat → Prop) (W' : World) : Prop where
  fr : Fr F W W'
  new : ∀ b, F' b → F b ∨ W.heap.size ≤ b
theorem Ext.refl (F : Nat → Prop) (W : World) : Ext F W F W := ⟨Fr.refl F W, fun b h => .inl h⟩
theorem Ext.trans {F F1 F2 : Nat → Prop} {W W1 W2 : World} (h : Ext F W F1 W1) (h' : Ext F1 W1 F2 W2) : Ext F W F2 W2 := by
  refine ⟨⟨h'.fr.os.trans h.fr.os, h'.fr.tape.trans h.fr.tape, h'.fr.output.trans h.fr.output, Nat.le_trans h.fr.size h'.fr.size, fun b hb hn => ?_⟩, fun b hb => ?_⟩
  · rw [h'.fr.block b (Nat.lt_of_lt_of_le hb h.fr.size) (fun e => by
      rcases h.new b e with e | e
      · exact hn e
      · omega), h.fr.block b hb hn]
  · rcases h'.new b hb with e | e
    · exact h.new b e
    · exact .inr (Nat.le_trans h.fr.size e)
theorem Ext.of_below {F : Nat → Prop} {W W' : World} (h : Below W.heap.size W W') : Ext F W F W' := ⟨Fr.of_below h, fun b h => .inl h⟩
theorem Ext.drewN {F F' : Nat → Prop} {W W' : World} (h : Ext F W F' W') (n : Nat) : Ext F W F' (W'.drewN n) := ⟨h.fr.drewN n, h.new⟩
theorem Ext.below {F F' : Nat → Prop} {W W' : World} {n : Nat} (h : Ext F W F' W') (hn : n ≤ W.heap.size) (hF : ∀ b, F b → n ≤ b) : Below n W W' ∧ ∀ b, F' b → n ≤ b :=
  ⟨h.fr.below hn hF, fun b hb => by
    rcases h.new b hb with e | e
    · exact hF b e
    · omega⟩
theorem Ext.block {F F' : Nat → Prop} {W W' : World} (h : Ext F W F' W') {b : Nat} {o : Obj} (hb : W.heap[b]? = some o) (hn : ¬ F b) : W'.heap[b]? = some o := (h.fr.block b (some_lt hb) hn).trans hb
theorem Ext.notin {F F' : Nat → Prop} {W W' : World} (h : Ext F W F' W') {b : Nat} (hb : b < W.heap.size) (hn : ¬ F b) : ¬ F' b := fun e => by
  rcases h.new b e with e | e
  · exact hn e
  · omega
/-- A tree behind at most k ops. -/
structure TS (k : Nat) (W : World) (F : Nat → Prop) (tb : Nat) (g : St) : Prop where
  tree : Tree W F tb g
  fine : Fine k g
theorem TS.below {k : Nat} {W W' : World} {F : Nat → Prop} {tb : Nat} {g : St} (h : TS k W F tb g) (hb : Below W.heap.size W W') : TS k W' F tb g := ⟨h.tree.below hb, h.fine⟩
theorem TS.same {k : Nat} {W W' : World} {F : Nat → Prop} {tb : Nat} {g : St} (h : TS k W F tb g) (hs : ∀ b, F b → W'.heap[b]? = W.heap[b]?) (hz : W.heap.size ≤ W'.heap.size) : TS k W' F tb g := ⟨h.tree.same hs hz, h.fine⟩
theorem TS.drewN {k : Nat} {W : World} {F : Nat → Prop} {tb : Nat} {g : St} (h : TS k W F tb g) (n : Nat) : TS k (W.drewN n) F tb g := ⟨h.tree.same (fun _ _ => rfl) (Nat.le_refl _), h.fine⟩
def ansV (a : Ans) (A : Option Addr) (c : Nat) : Value := .agg #[.int .i64 a.code, .int .i64 a.n, .string (mk a.data), .slice A a.names.length c]
def NewTS (W : World) (e : Ending) (W' : World) : Prop := ∃ tb F, e = .returned (.pointer (some ⟨tb, 0, none⟩)) ∧ TS 0 W' F tb newS ∧ Below W.heap.size W W' ∧ ∀ b, F b → W.heap.size ≤ b
theorem new_ts (W : World) : Calls Tryz.prog 12 #[] W (NewTS W) := by
  refine (new_calls W).mono ?_
  rintro e W' ⟨tb, F, rfl, hT, hB, hF⟩
  exact ⟨tb, F, rfl, ⟨hT, new_fine⟩, hB, hF⟩
theorem names_lt {W : World} {A : Option Addr} {c : Nat} {ns : List Str} (h : Strs W (.slice A ns.length c) ns) (hne : ns ≠ []) : ∀ bk o, A = some ⟨bk, o, none⟩ → bk < W.heap.size := by
  intro bk o e
  obtain ⟨bk', o', c', hv, _, hlt, _⟩ := h.cells hne
  subst e
  simp only [Value.slice.injEq, Option.some.injEq, Addr.mk.injEq] at hv
  omega
/-- Behind Do. -/
def DoTS (k : Nat) (W : World) (F : Nat → Prop) (tb : Nat) (r : St × Ans) (e : Ending) (W' : World) : Prop :=
  ∃ F' A c, e = .returned (ansV r.2 A c) ∧ TS (k + 1) W' F' tb r.1 ∧ Ext F W F' W' ∧ Strs W' (.slice A r.2.names.length c) r.2.names ∧ (r.2.names ≠ [] → ∀ bk o, A = some ⟨bk, o, none⟩ → ¬ F' bk ∧ W.heap.size ≤ bk ∧ bk < W'.heap.size)
theorem do_ts {k : Nat} {W : World} {F : Nat → Prop} {tb : Nat} {g : St} (h : TS k W F tb g) (hk : k < 100) (o : Ask) (hp : o.path.length ≤ 1048576) (hd : o.dst.length ≤ 1048576) (hda : o.data.length ≤ 1048576) :
    Calls Tryz.prog 13 #[.pointer (some ⟨tb, 0, none⟩), opV o] W (DoTS k W F tb (step g o)) := by
  refine (do_fine h.tree h.fine hk o (by omega) (by omega) (by omega)).mono ?_
  rintro e W' ⟨F', hF1, hF2, hT, hFr, v, rfl, hS, hV⟩
  obtain ⟨A, c, rfl, hc, hC⟩ := id hS
  refine ⟨F', A, c, rfl, ⟨hT, h.fine.step (by omega) o⟩, ⟨hFr, hF1⟩, hS, fun hne bk o h => ?_⟩
  have := hV bk o _ c (by rw [h])
  exact ⟨fun e => this (.inl e), by
    apply Nat.le_of_not_lt
    exact fun e => this (.inr e), names_lt hS hne bk o h⟩
theorem do_ts_tab {k : Nat} {W : World} {F : Nat → Prop} {tb : Nat} {g : St} (h : TS k W F tb g) (hk : k < 1000) (ht : TabW W) (o : Ask) (hp : o.path.length ≤ 1048576) (hd : o.dst.length ≤ 1048576) (hda : o.data.length ≤ 1048576) :
    Calls Tryz.prog 13 #[.pointer (some ⟨tb, 0, none⟩), opV o] W (DoTS k W F tb (step g o)) := by
  refine (do_fine_tab h.tree h.fine hk ht o (by omega) (by omega) (by omega)).mono ?_
  rintro e W' ⟨F', hF1, hF2, hT, hFr, v, rfl, hS, hV⟩
  obtain ⟨A, c, rfl, hc, hC⟩ := id hS
  refine ⟨F', A, c, rfl, ⟨hT, h.fine.step (by omega) o⟩, ⟨hFr, hF1⟩, hS, fun hne bk o h => ?_⟩
  have := hV bk o _ c (by rw [h])
  exact ⟨fun e => this (.inl e), by
    apply Nat.le_of_not_lt
    exact fun e => this (.inr e), names_lt hS hne bk o h⟩
theorem count_ts {k : Nat} {W : World} {F : Nat → Prop} {tb : Nat} {g : St} (h : TS k W F tb g) (hk : k < 1000) : Calls Tryz.prog 23 #[.pointer (some ⟨tb, 0, none⟩)] W fun e W' => e = .returned (.tuple #[.int .i64 (countF g), .int .i64 (countD g), .int .i64 (countB g)]) ∧ TS k W' F tb g ∧ Below W.heap.size W W' := by
  refine (count_fine h.tree h.fine (by omega)).mono ?_
  rintro e W' ⟨rfl, hT, hB⟩
  exact ⟨rfl, ⟨hT, h.fine⟩, hB⟩
/-! ### the comparison of two answers -/
theorem ans_ext {a b : Ans} (h1 : a.code = b.code) (h2 : a.n = b.n) (h3 : a.data = b.data) (h4 : a.names = b.names) : a = b := by cases a; cases b; simp_all
theorem same17_calls (a b : Ans) (A B : Option Addr) (c d : Nat) (w : World) (hn : a.names.length ≤ 1099511627776) (ha : Strs w (.slice A a.names.length c) a.names) (hb : Strs w (.slice B b.names.length d) b.names) (r : Bool) (hr : r = true ↔ a = b) :
    Calls Tryz.prog 14 #[ansV a A c, ansV b B d] w fun e w' => e = .returned (.bool r) ∧ Below w.heap.size w w' := by
  obtain ⟨A', c', hv, hc, hC⟩ := ha
  obtain ⟨B', d', hv', hd, hD⟩ := hb
  simp only [Value.slice.injEq] at hv hv'
  obtain ⟨rfl, _, rfl⟩ := hv
  obtain ⟨rfl, _, rfl⟩ := hv'
  have hf : PModelScripts.permafrostref17_Same.f (a.names.length + 1) a.code a.n (mk a.data) (a.names.map mk) b.code b.n (mk b.data) (b.names.map mk) = some r := by
    unfold PModelScripts.permafrostref17_Same.f
    have hs := same_ok a.names b.names hn (a.names.length + 1) (by omega)
    have hl : ∀ x y : Str, ((mk x).toList = (mk y).toList) ↔ x = y := fun x y => by rw [mk_list, mk_list]
    by_cases h1 : a.code = b.code
    · rw [if_pos h1]
      by_cases h2 : a.n = b.n
      · rw [if_pos h2]
        by_cases h3 : a.data = b.data
        · rw [if_pos ((hl _ _).2 h3), hs]
          by_cases h4 : a.names = b.names
          · have := hr.2 (ans_ext h1 h2 h3 h4)
            subst this
            simp [h4]
          · cases r with
            | true => exact absurd (congrArg Ans.names (hr.1 rfl)) h4
            | false => simp [h4]
        · rw [if_neg (fun e => h3 ((hl _ _).1 e))]
          cases r with
          | true => exact absurd (congrArg Ans.data (hr.1 rfl)) h3
          | false => rfl
      · rw [if_neg h2]
        cases r with
        | true => exact absurd (congrArg Ans.n (hr.1 rfl)) h2
        | false => rfl
    · rw [if_neg h1]
      cases r with
      | true => exact absurd (congrArg Ans.code (hr.1 rfl)) h1
      | false => rfl
  have := PModelScripts.permafrostref17_Same.calls (a.names.length + 1) a.code a.n (mk a.data) A c (a.names.map mk) b.code b.n (mk b.data) B d (b.names.map mk) r w (by rw [List.length_map]; exact hC) (by rw [List.length_map]; exact hc) (by rw [List.length_map]; exact hD) (by rw [List.length_map]; exact hd) hf
  rw [List.length_map, List.length_map] at this
  exact this
end Go.Proofs.YtaccokghjpcijaaGreatDoor
set_option linter.unusedVariables false
set_option linter.unusedSimpArgs false
namespace Go.Proofs.YtaccokghjpcijaaGreatDoor
open Go Go.RowKit Pp

/-! ### the ops of 'live', and what they answer -/
def lo1 : Ask := ⟨0, [47, 97], [], 0, 0, []⟩
def lo2 : Ask := ⟨2, [47, 97], [47, 98], 0, 0, []⟩
def lo3 : Ask := ⟨7, [47, 97], [], 2, 0, [120, 121]⟩
def lo4 : Ask := ⟨6, [47, 98], [], 0, 9, []⟩
def lo5 : Ask := ⟨1, [47, 98, 47, 99], [], 0, 0, []⟩
def lo6 : Ask := ⟨9, [47, 97], [], 0, 0, []⟩
def lo7 : Ask := ⟨10, [47], [], 0, 0, []⟩
def lo8 : Ask := ⟨5, [47, 97], [47, 97, 47, 120], 0, 0, []⟩
/-- The tree that 'live' makes, thing by thing. -/
def lgA : St := ⟨fun i => if i = 0 then ⟨some [([97], 1)], [], 0⟩ else if i = 1 then ⟨none, [], 1⟩ else ⟨none, [], 0⟩, 2⟩
def lgB : St := ⟨fun i => if i = 0 then ⟨some [([97], 1), ([98], 1)], [], 0⟩ else if i = 1 then ⟨none, [], 2⟩ else ⟨none, [], 0⟩, 2⟩
def lgC : St := ⟨fun i => if i = 0 then ⟨some [([97], 1), ([98], 1)], [], 0⟩ else if i = 1 then ⟨none, [0, 0, 120, 121], 2⟩ else ⟨none, [], 0⟩, 2⟩
theorem st_ext {a b : St} (h1 : ∀ i, a.node i = b.node i) (h2 : a.next = b.next) : a = b := by
  cases a; cases b
  simp only [St.mk.injEq]
  exact ⟨funext h1, h2⟩
theorem fun3 {f f' : Nat → Node} (h0 : f 0 = f' 0) (h1 : f 1 = f' 1) (h2 : ∀ i, f (i + 2) = f' (i + 2)) : ∀ i, f i = f' i
  | 0 => h0
  | 1 => h1
  | i + 2 => h2 i
theorem lw1 : wrap64 ((0 : Int) + 1) = 1 := by unfold wrap64; omega
theorem lw2 : wrap64 ((1 : Int) + 1) = 2 := by unfold wrap64; omega
theorem ls1 : step newS lo1 = (lgA, ⟨0, 0, [], []⟩) := by
  refine Prod.ext (st_ext (fun3 rfl (congrArg (fun k => (⟨none, [], k⟩ : Node)) lw1) (fun i => ?_)) rfl) rfl
  rfl
theorem ls2 : step lgA lo2 = (lgB, ⟨0, 0, [], []⟩) := by
  refine Prod.ext (st_ext (fun3 rfl (congrArg (fun k => (⟨none, [], k⟩ : Node)) lw2) (fun i => ?_)) rfl) rfl
  rfl
theorem ls3 : step lgB lo3 = (lgC, ⟨0, 2, [], []⟩) := by
  refine Prod.ext (st_ext (fun3 rfl rfl (fun i => ?_)) rfl) rfl
  rfl
theorem ls4 : step lgC lo4 = (lgC, ⟨0, 4, [0, 0, 120, 121], []⟩) := rfl
theorem ls5 : step lgC lo5 = (lgC, ⟨11, 0, [], []⟩) := rfl
theorem ld2 : Lib.decDigits (2 : Int).toNat = [50] := by
  show Lib.decDigits 2 = [50]
  unfold Lib.decDigits
  simp
theorem ls6 : step lgC lo6 = (lgC, ⟨0, 4, fileT, [[50]]⟩) := by
  have : step lgC lo6 = (lgC, ⟨0, 4, fileT, [Lib.decDigits (2 : Int).toNat]⟩) := rfl
  rw [this, ld2]
theorem ls7 : step lgC lo7 = (lgC, ⟨0, 0, [], [[97], [98]]⟩) := by
  have : step lgC lo7 = (lgC, ⟨0, 0, [], sortS [[97], [98]]⟩) := rfl
  rw [this, show sortS [[97], [98]] = [[97], [98]] from List.mergeSort_of_pairwise (by decide)]
theorem lreach : reachL lgC = [0, 1] := by
  have h : List.range lgC.next = [0, 1] := rfl
  unfold reachL
  rw [h, List.filter_eq_self]
  intro i hi
  simp only [decide_eq_true_eq]
  rcases List.mem_cons.1 hi with rfl | hi
  · exact ⟨[], rfl⟩
  · rw [List.mem_singleton] at hi
    subst hi
    exact ⟨[[97]], rfl⟩
theorem lcounts : countF lgC = 1 ∧ countD lgC = 1 ∧ countB lgC = 4 := by
  unfold countF countD countB
  rw [lreach]
  exact ⟨rfl, rfl, rfl⟩
theorem ls8 : step lgC lo8 = (lgC, ⟨1, 0, [], []⟩) := rfl
end Go.Proofs.YtaccokghjpcijaaGreatDoor
set_option linter.unusedVariables false
set_option linter.unusedSimpArgs false
namespace Go.Proofs.YtaccokghjpcijaaGreatDoor
open Go Go.RowKit Pp Go.Proofs.YtaccokghjpcijaaGreatDoorW.PrintWords

/-- An answer in a box of its own. -/
def ansO (a : Ans) (A : Option Addr) (c : Nat) : Obj := .cells #[.int .i64 a.code, .int .i64 a.n, .string (Go.Proofs.YtaccokghjpcijaaGreatDoor.mk a.data), .slice A a.names.length c] 32 (0, 0)
theorem do_at {k : Nat} {W : World} {F : Nat → Prop} {tb : Nat} {g : St} (h : TS k W F tb g) (hk : k < 100) (o : Ask) (hp : o.path.length ≤ 1048576) (hd : o.dst.length ≤ 1048576) (hda : o.data.length ≤ 1048576) {r : St × Ans} (hr : step g o = r) :
    Calls Tryz.prog 13 #[.pointer (some ⟨tb, 0, none⟩), opV o] W (DoTS k W F tb r) := hr ▸ do_ts h hk o hp hd hda
/-- The answer lies in a box, in world w; its names are where they were. -/
structure Boxed (a : Ans) (A : Option Addr) (c : Nat) (b : Nat) (F : Nat → Prop) (w : World) : Prop where
  at_ : w.heap[b]? = some (ansO a A c)
  nF : ¬ F b
  names : Strs w (.slice A a.names.length c) a.names
  nN : a.names ≠ [] → ∀ bk o, A = some ⟨bk, o, none⟩ → ¬ F bk ∧ bk < w.heap.size
theorem Boxed.ext {a : Ans} {A : Option Addr} {c b : Nat} {F F' : Nat → Prop} {w w' : World} (h : Boxed a A c b F w) (hX : Ext F w F' w') : Boxed a A c b F' w' where
  at_ := hX.block h.at_ h.nF
  nF := hX.notin (some_lt h.at_) h.nF
  names := by
    by_cases hne : a.names = []
    · have := Strs.nil w' c A
      rw [hne]
      exact this
    · exact h.names.kept (fun bk o n c e => by
        cases e
        obtain ⟨h1, h2⟩ := h.nN hne bk o rfl
        exact hX.fr.block bk h2 h1)
  nN := fun hne bk o e => by
    obtain ⟨h1, h2⟩ := h.nN hne bk o e
    exact ⟨hX.notin h2 h1, Nat.lt_of_lt_of_le h2 hX.fr.size⟩
theorem Boxed.cells {a : Ans} {A : Option Addr} {c b : Nat} {F : Nat → Prop} {w : World} (h : Boxed a A c b F w) : w.cell? ⟨b, 0, none⟩ = some (.int .i64 a.code) ∧ w.cell? ⟨b, 1, none⟩ = some (.int .i64 a.n) ∧ w.cell? ⟨b, 2, none⟩ = some (.string (Go.Proofs.YtaccokghjpcijaaGreatDoor.mk a.data)) ∧ w.cell? ⟨b, 3, none⟩ = some (.slice A a.names.length c) :=
  ⟨heap_cell h.at_ 0 _ rfl, heap_cell h.at_ 1 _ rfl, heap_cell h.at_ 2 _ rfl, heap_cell h.at_ 3 _ rfl⟩
/-- Do, and its answer put into a box. -/
theorem boxed {k : Nat} {w v w' : World} {F F' : Nat → Prop} {tb : Nat} {g : St} {a : Ans} {A : Option Addr} {c : Nat} (hT : TS k v F' tb g) (hX : Ext F w F' v) (hS : Strs v (.slice A a.names.length c) a.names) (hA : a.names ≠ [] → ∀ bk o, A = some ⟨bk, o, none⟩ → ¬ F' bk ∧ w.heap.size ≤ bk ∧ bk < v.heap.size)
    (hw : v.alloc (.cells #[.int .i64 a.code, .int .i64 a.n, .string (mk a.data), .slice A a.names.length c] 32) = w') :
    TS k w' F' tb g ∧ Ext F w F' w' ∧ Boxed a A c v.heap.size F' w' := by
  have hb : Below v.heap.size v w' := by rw [← hw]; exact balloc (Below.refl _ _)
  refine ⟨hT.below hb, hX.trans (Ext.of_below hb), ?_, fun e => ?_, hS.below hb, fun hne bk o e => ⟨(hA hne bk o e).1, Nat.lt_of_lt_of_le (hA hne bk o e).2.2 hb.size⟩⟩
  · rw [← hw]; exact heap_alloc_new _ _
  · have := hT.tree.2 _ e; omega
set_option maxRecDepth 100000 in
set_option maxHeartbeats 8000000 in
theorem live_calls (w : World) : Calls Tryz.prog 11 #[] w fun e w' => e = .returned (.bool true) ∧ Below w.heap.size w w' := by
  go_enter Tryz.func11, Tryz.ntmps11
  go_wp2_with fail
  refine (new_ts _).mono ?_
  rintro e w0 ⟨tb, F0, rfl, hT, hB, hF0⟩
  have HQ0 := Lib.hid hT
  have HB := Lib.hid hB
  have HF := Lib.hid hF0
  clear hT hB hF0
  go_wp2_with fail
  refine (do_at HQ0.out (by decide) lo1 (by decide) (by decide) (by decide) ls1).mono ?_
  rintro e v1 ⟨F1, A1, c1, rfl, hT, hX, hS, hA⟩
  obtain ⟨b1, hb1⟩ : ∃ b, v1.heap.size = b := ⟨_, rfl⟩
  obtain ⟨w1, hw1⟩ : ∃ w, v1.alloc (.cells #[.int .i64 0, .int .i64 0, .string (mk []), .slice A1 0 c1] 32) = w := ⟨_, rfl⟩
  obtain ⟨hT2, hX2, hbx⟩ := boxed (a := ⟨0, 0, [], []⟩) hT hX hS hA hw1
  rw [hb1] at hbx
  have HX1 := Lib.hid hX2
  have HQ1 := Lib.hid hT2
  have HBX1 := Lib.hid hbx
  have HW := Lib.hid hw1
  have HBB := Lib.hid hb1
  clear hT hX hT2 hX2 hS hA hbx hw1 hb1
  unfold ansV
  go_wp2_with fail
  rw [HBB.out, HW.out]
  clear HW HBB
  refine (do_at HQ1.out (by decide) lo2 (by decide) (by decide) (by decide) ls2).mono ?_
  rintro e v2 ⟨F2, A2, c2, rfl, hT, hX, hS, hA⟩
  obtain ⟨b2, hb2⟩ : ∃ b, v2.heap.size = b := ⟨_, rfl⟩
  obtain ⟨w2, hw2⟩ : ∃ w, v2.alloc (.cells #[.int .i64 0, .int .i64 0, .string (mk []), .slice A2 0 c2] 32) = w := ⟨_, rfl⟩
  obtain ⟨hT2, hX2, hbx⟩ := boxed (a := ⟨0, 0, [], []⟩) hT hX hS hA hw2
  rw [hb2] at hbx
  have HX2 := Lib.hid hX2
  have HQ2 := Lib.hid hT2
  have HBX2 := Lib.hid hbx
  have HW := Lib.hid hw2
  have HBB := Lib.hid hb2
  clear hT hX hT2 hX2 hS hA hbx hw2 hb2
  unfold ansV
  go_wp2_with fail
  rw [HBB.out, HW.out]
  clear HW HBB
  refine (do_at HQ2.out (by decide) lo3 (by decide) (by decide) (by decide) ls3).mono ?_
  rintro e v3 ⟨F3, A3, c3, rfl, hT, hX, hS, hA⟩
  obtain ⟨b3, hb3⟩ : ∃ b, v3.heap.size = b := ⟨_, rfl⟩
  obtain ⟨w3, hw3⟩ : ∃ w, v3.alloc (.cells #[.int .i64 0, .int .i64 2, .string (mk []), .slice A3 0 c3] 32) = w := ⟨_, rfl⟩
  obtain ⟨hT2, hX2, hbx⟩ := boxed (a := ⟨0, 2, [], []⟩) hT hX hS hA hw3
  rw [hb3] at hbx
  have HX3 := Lib.hid hX2
  have HQ3 := Lib.hid hT2
  have HBX3 := Lib.hid hbx
  have HW := Lib.hid hw3
  have HBB := Lib.hid hb3
  clear hT hX hT2 hX2 hS hA hbx hw3 hb3
  unfold ansV
  go_wp2_with fail
  rw [HBB.out, HW.out]
  clear HW HBB
  refine (do_at HQ3.out (by decide) lo4 (by decide) (by decide) (by decide) ls4).mono ?_
  rintro e v4 ⟨F4, A4, c4, rfl, hT, hX, hS, hA⟩
  obtain ⟨b4, hb4⟩ : ∃ b, v4.heap.size = b := ⟨_, rfl⟩
  obtain ⟨w4, hw4⟩ : ∃ w, v4.alloc (.cells #[.int .i64 0, .int .i64 4, .string (mk [0, 0, 120, 121]), .slice A4 0 c4] 32) = w := ⟨_, rfl⟩
  obtain ⟨hT2, hX2, hbx⟩ := boxed (a := ⟨0, 4, [0, 0, 120, 121], []⟩) hT hX hS hA hw4
  rw [hb4] at hbx
  have HX4 := Lib.hid hX2
  have HQ4 := Lib.hid hT2
  have HBX4 := Lib.hid hbx
  have HW := Lib.hid hw4
  have HBB := Lib.hid hb4
  clear hT hX hT2 hX2 hS hA hbx hw4 hb4
  unfold ansV
  go_wp2_with fail
  rw [HBB.out, HW.out]
  clear HW HBB
  refine (do_at HQ4.out (by decide) lo5 (by decide) (by decide) (by decide) ls5).mono ?_
  rintro e v5 ⟨F5, A5, c5, rfl, hT, hX, hS, hA⟩
  obtain ⟨b5, hb5⟩ : ∃ b, v5.heap.size = b := ⟨_, rfl⟩
  obtain ⟨w5, hw5⟩ : ∃ w, v5.alloc (.cells #[.int .i64 11, .int .i64 0, .string (mk []), .slice A5 0 c5] 32) = w := ⟨_, rfl⟩
  obtain ⟨hT2, hX2, hbx⟩ := boxed (a := ⟨11, 0, [], []⟩) hT hX hS hA hw5
  rw [hb5] at hbx
  have HX5 := Lib.hid hX2
  have HQ5 := Lib.hid hT2
  have HBX5 := Lib.hid hbx
  have HW := Lib.hid hw5
  have HBB := Lib.hid hb5
  clear hT hX hT2 hX2 hS hA hbx hw5 hb5
  unfold ansV
  go_wp2_with fail
  rw [HBB.out, HW.out]
  clear HW HBB
  refine (do_at HQ5.out (by decide) lo6 (by decide) (by decide) (by decide) ls6).mono ?_
  rintro e v6 ⟨F6, A6, c6, rfl, hT, hX, hS, hA⟩
  obtain ⟨b6, hb6⟩ : ∃ b, v6.heap.size = b := ⟨_, rfl⟩
  obtain ⟨w6, hw6⟩ : ∃ w, v6.alloc (.cells #[.int .i64 0, .int .i64 4, .string (mk fileT), .slice A6 1 c6] 32) = w := ⟨_, rfl⟩
  obtain ⟨hT2, hX2, hbx⟩ := boxed (a := ⟨0, 4, fileT, [[50]]⟩) hT hX hS hA hw6
  rw [hb6] at hbx
  have HX6 := Lib.hid hX2
  have HQ6 := Lib.hid hT2
  have HBX6 := Lib.hid hbx
  have HW := Lib.hid hw6
  have HBB := Lib.hid hb6
  clear hT hX hT2 hX2 hS hA hbx hw6 hb6
  unfold ansV
  go_wp2_with fail
  rw [HBB.out, HW.out]
  clear HW HBB
  refine (do_at HQ6.out (by decide) lo7 (by decide) (by decide) (by decide) ls7).mono ?_
  rintro e v7 ⟨F7, A7, c7, rfl, hT, hX, hS, hA⟩
  obtain ⟨b7, hb7⟩ : ∃ b, v7.heap.size = b := ⟨_, rfl⟩
  obtain ⟨w7, hw7⟩ : ∃ w, v7.alloc (.cells #[.int .i64 0, .int .i64 0, .string (mk []), .slice A7 2 c7] 32) = w := ⟨_, rfl⟩
  obtain ⟨hT2, hX2, hbx⟩ := boxed (a := ⟨0, 0, [], [[97], [98]]⟩) hT hX hS hA hw7
  rw [hb7] at hbx
  have HX7 := Lib.hid hX2
  have HQ7 := Lib.hid hT2
  have HBX7 := Lib.hid hbx
  have HW := Lib.hid hw7
  have HBB := Lib.hid hb7
  clear hT hX hT2 hX2 hS hA hbx hw7 hb7
  unfold ansV
  go_wp2_with fail
  rw [HBB.out, HW.out]
  clear HW HBB
  refine (do_at HQ7.out (by decide) lo8 (by decide) (by decide) (by decide) ls8).mono ?_
  rintro e v8 ⟨F8, A8, c8, rfl, hT, hX, hS, hA⟩
  obtain ⟨b8, hb8⟩ : ∃ b, v8.heap.size = b := ⟨_, rfl⟩
  obtain ⟨w8, hw8⟩ : ∃ w, v8.alloc (.cells #[.int .i64 1, .int .i64 0, .string (mk []), .slice A8 0 c8] 32) = w := ⟨_, rfl⟩
  obtain ⟨hT2, hX2, hbx⟩ := boxed (a := ⟨1, 0, [], []⟩) hT hX hS hA hw8
  rw [hb8] at hbx
  have HX8 := Lib.hid hX2
  have HQ8 := Lib.hid hT2
  have HBX8 := Lib.hid hbx
  have HW := Lib.hid hw8
  have HBB := Lib.hid hb8
  clear hT hX hT2 hX2 hS hA hbx hw8 hb8
  unfold ansV
  go_wp2_with fail
  rw [HBB.out, HW.out]
  clear HW HBB
  have hcn := count_ts HQ8.out (by decide)
  rw [lcounts.1, lcounts.2.1, lcounts.2.2] at hcn
  refine hcn.mono ?_
  rintro e w9 ⟨rfl, hT9, hB9⟩
  have E8 : Ext F8 w8 F8 w9 := Ext.of_below hB9
  have E7 := HX8.out.trans E8
  have E6 := HX7.out.trans E7
  have E5 := HX6.out.trans E6
  have E4 := HX5.out.trans E5
  have E3 := HX4.out.trans E4
  have E2 := HX3.out.trans E3
  have E1 := HX2.out.trans E2
  have Y1 := HBX1.out.ext E1
  have Y2 := HBX2.out.ext E2
  have Y3 := HBX3.out.ext E3
  have Y4 := HBX4.out.ext E4
  have Y5 := HBX5.out.ext E5
  have Y6 := HBX6.out.ext E6
  have Y7 := HBX7.out.ext E7
  have Y8 := HBX8.out.ext E8
  have E0 := Lib.hid (HX1.out.trans E1)
  obtain ⟨y10, y11, y12, y13⟩ := Y1.cells
  have Z1 := Lib.hid Y1
  obtain ⟨y20, y21, y22, y23⟩ := Y2.cells
  have Z2 := Lib.hid Y2
  obtain ⟨y30, y31, y32, y33⟩ := Y3.cells
  have Z3 := Lib.hid Y3
  obtain ⟨y40, y41, y42, y43⟩ := Y4.cells
  have Z4 := Lib.hid Y4
  obtain ⟨y50, y51, y52, y53⟩ := Y5.cells
  have Z5 := Lib.hid Y5
  obtain ⟨y60, y61, y62, y63⟩ := Y6.cells
  have Z6 := Lib.hid Y6
  obtain ⟨y70, y71, y72, y73⟩ := Y7.cells
  have Z7 := Lib.hid Y7
  obtain ⟨y80, y81, y82, y83⟩ := Y8.cells
  have Z8 := Lib.hid Y8
  clear hcn hT9 hB9 E8 E7 E6 E5 E4 E3 E2 E1 Y1 Y2 Y3 Y4 Y5 Y6 Y7 Y8 HX1 HX2 HX3 HX4 HX5 HX6 HX7 HX8 HBX1 HBX2 HBX3 HBX4 HBX5 HBX6 HBX7 HBX8 HQ0 HQ1 HQ2 HQ3 HQ4 HQ5 HQ6 HQ7 HQ8
  have t4 := mk_list [0, 0, 120, 121]
  simp only at y10 y20 y31 y41 y42 y50 y60 y61 y62 y63 y70 y71 y72 y73 y80
  go_wp2_with fail
  refine (same17_calls ⟨0, 4, fileT, [[50]]⟩ ⟨0, 4, fileT, [[50]]⟩ A6 (some ⟨w9.heap.size, 0, none⟩) c6 1 _ (by decide) (Z6.out.names.below (balloc (Below.refl _ _))) (Strs.one (k := 0) (heap_alloc_new _ _)) true (by simp)).mono ?_
  rintro e wA ⟨rfl, hA⟩
  have hBA : Below w9.heap.size w9 wA := bstep (balloc (Below.refl _ _)) hA
  have Z7 := Lib.hid (Z7.out.ext (Ext.of_below hBA))
  have Z8 := Lib.hid (Z8.out.ext (Ext.of_below hBA))
  obtain ⟨y70, y71, y72, y73⟩ := Z7.out.cells
  obtain ⟨y80, y81, y82, y83⟩ := Z8.out.cells
  simp only at y70 y71 y72 y73 y80
  have HBA := Lib.hid hBA
  clear hA hBA
  go_wp2_with fail
  refine (same17_calls ⟨0, 0, [], [[97], [98]]⟩ ⟨0, 0, [], [[97], [98]]⟩ A7 (some ⟨wA.heap.size, 0, none⟩) c7 2 _ (by decide) (Z7.out.names.below (balloc (Below.refl _ _))) (Strs.new2 _ _ [97] [98] 0) true (by simp)).mono ?_
  rintro e wB ⟨rfl, hB⟩
  have hBB : Below wA.heap.size wA wB := bstep (balloc (Below.refl _ _)) hB
  have Z8 := Lib.hid (Z8.out.ext (Ext.of_below hBB))
  obtain ⟨y80, y81, y82, y83⟩ := Z8.out.cells
  simp only at y80
  have HBB := Lib.hid hBB
  clear hB hBB
  go_wp2_with fail
  go_ret
  exact ⟨rfl, bstep (bstep (HB.out.trans (E0.out.below HB.out.size HF.out).1) HBA.out) HBB.out⟩
end Go.Proofs.YtaccokghjpcijaaGreatDoor
namespace Go.Proofs.YtaccokghjpcijaaGreatDoor
open Go.ChangeShapes Go.WideShapes Go.ChangeAt Go.RowKit Pp Go.Proofs.YtaccokghjpcijaaGreatDoorW.PrintWords Go.Deep
set_option linter.unusedVariables false

theorem own : ownKnob Tryz.prog.godebug = none := by kernel_rfl
theorem laidOut : laidOutB Tryz.prog = true := by kernel_rfl
theorem cellsStr : Tryz.prog.cellsOf 9 = 1 := by kernel_rfl
theorem cellsInt : Tryz.prog.cellsOf 3 = 1 := by kernel_rfl
theorem cellsOp : Tryz.prog.cellsOf 35 = 6 := by kernel_rfl
/-- An op, as the printed texts have it. -/
def askP (x : PModelScripts.S35) : Ask := ⟨x.f0, x.f1.data.toList, x.f2.data.toList, x.f3, x.f4, x.f5.data.toList⟩
theorem opV_askP (x : PModelScripts.S35) : opV (askP x) = .agg #[.int .i64 x.f0, .string x.f1, .string x.f2, .int .i64 x.f3, .int .i64 x.f4, .string x.f5] := by
  unfold opV askP
  simp only [mk_data]
theorem six {α : Type} {cs : List α} (h : cs.length = 6) : ∃ a b c d e f, cs = [a, b, c, d, e, f] := by
  match cs, h with
  | [a, b, c, d, e, f], _ => exact ⟨a, b, c, d, e, f, rfl⟩
theorem some_of {α : Type} {l : List α} {n i : Nat} (h : l.length = n) (hi : i < n) : ∃ y, l[i]? = some y := ⟨l[i]'(by omega), by simp⟩
section
variable {H : Type} {enc : TypeId × Value → H} {W : World} {base b0 : Nat} {spare : Nat → Bool} {held : Bool} {r : Reach}
/-- One field's reading. -/
theorem field_at {fs : Array Field} {m : Nat} {cs : List Value} {xs : List (DataW H × List MemPlace)} (hf : ∀ (i : Nat) (f : Field), fs[i]? = some f → DataW.trod enc Tryz.prog W base spare held m f.type ((cs.drop f.offset).take (Tryz.prog.cellsOf f.type)) = xs[i]?)
    (i T off n : Nat) (h : (fs[i]?).map (fun f => (f.type, f.offset)) = some (T, off)) (hc : Tryz.prog.cellsOf T = n) {y : DataW H × List MemPlace} (hy : xs[i]? = some y) : DataW.trod enc Tryz.prog W base spare held m T ((cs.drop off).take n) = some y := by
  obtain ⟨f, hf1, hf2⟩ := Option.map_eq_some_iff.1 h
  simp only [Prod.mk.injEq] at hf2
  obtain ⟨rfl, rfl⟩ := hf2
  rw [← hc, ← hy]
  exact hf i f hf1
theorem str_cell {n : Nat} {v : Value} {y : DataW H × List MemPlace} (h : DataW.trod enc Tryz.prog W base spare held n 9 [v] = some y) : ∃ s : ByteArray, v = .string s := by
  obtain ⟨s, k, _⟩ := DataW.trod_string Tryz.underlying9 h
  simp only [List.cons.injEq, and_true] at k
  exact ⟨s, k⟩
theorem int_cell {n : Nat} {v : Value} {y : DataW H × List MemPlace} (h : DataW.trod enc Tryz.prog W base spare held n 3 [v] = some y) : ∃ k : Int, v = .int .i64 k := by
  obtain ⟨s, k, _⟩ := DataW.trod_int Tryz.underlying3 h
  simp only [List.cons.injEq, and_true] at k
  exact ⟨s, k⟩
/-- The cells of an op. -/
theorem op_cells_of {n : Nat} {cs : List Value} {x : DataW H × List MemPlace} (h : DataW.trod enc Tryz.prog W base spare held n 35 cs = some x) :
    ∃ q : PModelScripts.S35, cs = [.int .i64 q.f0, .string q.f1, .string q.f2, .int .i64 q.f3, .int .i64 q.f4, .string q.f5] := by
  obtain ⟨xs, m, _, _, hl, hn, hf⟩ := DataW.trod_struct Tryz.underlying35 h
  rw [cellsOp] at hl
  obtain ⟨c0, c1, c2, c3, c4, c5, rfl⟩ := six hl
  have hn' : xs.length = 6 := hn
  obtain ⟨y0, e0⟩ := some_of hn' (show 0 < 6 by omega)
  obtain ⟨y1, e1⟩ := some_of hn' (show 1 < 6 by omega)
  obtain ⟨y2, e2⟩ := some_of hn' (show 2 < 6 by omega)
  obtain ⟨y3, e3⟩ := some_of hn' (show 3 < 6 by omega)
  obtain ⟨y4, e4⟩ := some_of hn' (show 4 < 6 by omega)
  obtain ⟨y5, e5⟩ := some_of hn' (show 5 < 6 by omega)
  have g0 := field_at hf 0 3 0 1 rfl cellsInt e0
  have g1 := field_at hf 1 9 1 1 rfl cellsStr e1
  have g2 := field_at hf 2 9 2 1 rfl cellsStr e2
  have g3 := field_at hf 3 3 3 1 rfl cellsInt e3
  have g4 := field_at hf 4 3 4 1 rfl cellsInt e4
  have g5 := field_at hf 5 9 5 1 rfl cellsStr e5
  simp only [List.drop_zero, List.drop_succ_cons, List.take_succ_cons, List.take_zero] at g0 g1 g2 g3 g4 g5
  obtain ⟨n0, k0⟩ := int_cell g0
  obtain ⟨n1, k1⟩ := str_cell g1
  obtain ⟨n2, k2⟩ := str_cell g2
  obtain ⟨n3, k3⟩ := int_cell g3
  obtain ⟨n4, k4⟩ := int_cell g4
  obtain ⟨n5, k5⟩ := str_cell g5
  exact ⟨⟨n0, n1, n2, n3, n4, n5⟩, by rw [k0, k1, k2, k3, k4, k5]⟩
set_option maxRecDepth 100000 in
theorem open_op {v : Value} {d : DataW H} {p : List MemPlace} (hv : Value.okWide Tryz.prog W r b0 35 v) (h : DataW.Trod enc Tryz.prog W base spare held 35 v d p) : ∃ o : Ask, v = opV o := by
  obtain ⟨cs, rfl, hsz⟩ := okWide_struct Tryz.underlying35 hv
  obtain ⟨fuel, hf⟩ := h
  obtain ⟨q, hc⟩ := op_cells_of hf
  obtain ⟨l⟩ := cs
  refine ⟨askP q, ?_⟩
  rw [opV_askP]
  have hl : l = _ := hc
  rw [hl]
/-- The cells of a slice of ops. -/
theorem ops_cells_of {n : Nat} {cs : List Value} {x : DataW H × List MemPlace} (h : DataW.trod enc Tryz.prog W base (fun _ => true) held n 22 cs = some x) :
    ∃ A c, ∃ l : List PModelScripts.S35, cs = [.slice A l.length c] ∧ Kd.C PModelScripts.k35 W A l.length l ∧ l.length ≤ c := by
  rcases open_slice Tryz.underlying22 h with ⟨rfl, _⟩ | ⟨a, len, cap, m, nn, Dd, Pl, hcs, hb, hl, hm, hmm, hx, hi⟩
  · exact ⟨none, 0, [], rfl, ⟨rfl, by simp, fun h => by simp at h⟩, Nat.le_refl _⟩
  · have hmc : m = cap := by simpa using hmm
    have hall : ∀ i, i < len → ∃ q : PModelScripts.S35, W.cells? base (a.add (i * 6)) 6 = some [Value.int .i64 q.f0, Value.string q.f1, Value.string q.f2, Value.int .i64 q.f3, Value.int .i64 q.f4, Value.string q.f5] := fun i hil => by
      obtain ⟨cs', hc, ht⟩ := hi i (by omega)
      obtain ⟨q, rfl⟩ := op_cells_of ht
      rw [cellsOp] at hc
      exact ⟨q, hc⟩
    obtain ⟨f, hf⟩ : ∃ f : Nat → PModelScripts.S35, ∀ i, i < len → W.cells? base (a.add (i * 6)) 6 = some [Value.int .i64 (f i).f0, Value.string (f i).f1, Value.string (f i).f2, Value.int .i64 (f i).f3, Value.int .i64 (f i).f4, Value.string (f i).f5] :=
      ⟨fun i => if h : i < len then (hall i h).choose else PModelScripts.z35, fun i h => by
        simp only [dif_pos h]
        exact (hall i h).choose_spec⟩
    have hlen : ((List.range len).map f).length = len := by rw [List.length_map, List.length_range]
    refine ⟨some a, cap, (List.range len).map f, by rw [hlen]; exact hcs, ?_, by omega⟩
    rw [hlen]
    unfold maxLen at hm
    refine ⟨hlen, by omega, fun _ => ⟨a, rfl, fun j p hj => ?_⟩⟩
    have hjl : j < len := by
      rcases Nat.lt_or_ge j len with h | h
      · exact h
      · rw [List.getElem?_eq_none (by omega)] at hj; cases hj
    have hp : f j = p := by
      rw [List.getElem?_map, List.getElem?_range hjl] at hj
      exact Option.some.inj hj
    subst hp
    refine ⟨_, rfl, PModelScripts.k35_mk W (f j), fun i u hu => ?_⟩
    obtain ⟨_, _, hat⟩ := World.cells?_some (hf j hjl)
    have hil : i < 6 := by
      rcases Nat.lt_or_ge i 6 with h | h
      · exact h
      · rw [List.getElem?_eq_none (by simpa using h)] at hu; cases hu
    have := hat i hil
    rw [hu, Go.Deep.add_add] at this
    exact this
set_option maxRecDepth 100000 in
theorem ops_arg {v : Value} {d : DataW H} {p : List MemPlace} (hv : Value.okWide Tryz.prog W r b0 22 v) (h : DataW.Trod enc Tryz.prog W base (fun _ => true) held 22 v d p) :
    ∃ A c, ∃ l : List PModelScripts.S35, v = .slice A l.length c ∧ Kd.C PModelScripts.k35 W A l.length l ∧ l.length ≤ c := by
  obtain ⟨a0, len, cap, rfl⟩ := okWide_slice Tryz.underlying22 hv
  obtain ⟨fuel, hf⟩ := h
  obtain ⟨A, c, l, hc, hC, hl⟩ := ops_cells_of hf
  have hc' : [Value.slice a0 len cap] = [.slice A l.length c] := hc
  simp only [List.cons.injEq, and_true] at hc'
  exact ⟨A, c, l, hc', hC, hl⟩
set_option maxRecDepth 100000 in
theorem int_arg {v : Value} {d : DataW H} {p : List MemPlace} (hv : Value.okWide Tryz.prog W r b0 3 v) (h : DataW.Trod enc Tryz.prog W base spare held 3 v d p) : ∃ k : Int, v = .int .i64 k := by
  obtain ⟨k, rfl⟩ := okWide_int Tryz.underlying3 hv
  exact ⟨k, rfl⟩
theorem cellsOps : Tryz.prog.cellsOf 22 = 1 := by kernel_rfl
theorem cellsWritten : Tryz.prog.cellsOf 24 = 4 := by kernel_rfl
theorem cellsMoved : Tryz.prog.cellsOf 49 = 4 := by kernel_rfl
theorem four4 {α : Type} {cs : List α} (h : cs.length = 4) : ∃ a b c d, cs = [a, b, c, d] := by
  match cs, h with
  | [a, b, c, d], _ => exact ⟨a, b, c, d, rfl⟩
theorem str_list (s : ByteArray) : ∃ l : Str, Value.string s = .string (mk l) := ⟨s.data.toList, by rw [mk_data]⟩
set_option maxRecDepth 100000 in
theorem open_written {v : Value} {d : DataW H} {p : List MemPlace} (hv : Value.okWide Tryz.prog W r b0 24 v) (h : DataW.Trod enc Tryz.prog W base (fun _ => true) held 24 v d p) :
    ∃ A c, ∃ l : List PModelScripts.S35, ∃ (s1 : Str) (n2 : Int) (s3 : Str), v = .agg #[.slice A l.length c, .string (mk s1), .int .i64 n2, .string (mk s3)] ∧ Kd.C PModelScripts.k35 W A l.length l ∧ l.length ≤ c := by
  obtain ⟨cs, rfl, hsz⟩ := okWide_struct Tryz.underlying24 hv
  obtain ⟨fuel, hf0⟩ := h
  obtain ⟨xs, m, _, _, hl, hn, hf⟩ := DataW.trod_struct Tryz.underlying24 hf0
  obtain ⟨l⟩ := cs
  rw [cellsWritten] at hl
  have hl' : l.length = 4 := hl
  obtain ⟨c0, c1, c2, c3, rfl⟩ := four4 hl'
  have hn' : xs.length = 4 := hn
  obtain ⟨y0, e0⟩ := some_of hn' (show 0 < 4 by omega)
  obtain ⟨y1, e1⟩ := some_of hn' (show 1 < 4 by omega)
  obtain ⟨y2, e2⟩ := some_of hn' (show 2 < 4 by omega)
  obtain ⟨y3, e3⟩ := some_of hn' (show 3 < 4 by omega)
  have g0 := field_at hf 0 22 0 1 rfl cellsOps e0
  have g1 := field_at hf 1 9 1 1 rfl cellsStr e1
  have g2 := field_at hf 2 3 2 1 rfl cellsInt e2
  have g3 := field_at hf 3 9 3 1 rfl cellsStr e3
  simp only [Value.cells, List.drop_zero, List.drop_succ_cons, List.take_succ_cons, List.take_zero] at g0 g1 g2 g3
  obtain ⟨A, c, l, k0, hC, hlc⟩ := ops_cells_of g0
  obtain ⟨n1, k1⟩ := str_cell g1
  obtain ⟨n2, k2⟩ := int_cell g2
  obtain ⟨n3, k3⟩ := str_cell g3
  simp only [List.cons.injEq, and_true] at k0
  refine ⟨A, c, l, n1.data.toList, n2, n3.data.toList, ?_, hC, hlc⟩
  rw [k0, k1, k2, k3, mk_data, mk_data]
set_option maxRecDepth 100000 in
theorem open_moved {v : Value} {d : DataW H} {p : List MemPlace} (hv : Value.okWide Tryz.prog W r b0 49 v) (h : DataW.Trod enc Tryz.prog W base (fun _ => true) held 49 v d p) :
    ∃ A c, ∃ l : List PModelScripts.S35, ∃ (s1 s2 s3 : Str), v = .agg #[.slice A l.length c, .string (mk s1), .string (mk s2), .string (mk s3)] ∧ Kd.C PModelScripts.k35 W A l.length l ∧ l.length ≤ c := by
  obtain ⟨cs, rfl, hsz⟩ := okWide_struct Tryz.underlying49 hv
  obtain ⟨fuel, hf0⟩ := h
  obtain ⟨xs, m, _, _, hl, hn, hf⟩ := DataW.trod_struct Tryz.underlying49 hf0
  obtain ⟨l⟩ := cs
  rw [cellsMoved] at hl
  have hl' : l.length = 4 := hl
  obtain ⟨c0, c1, c2, c3, rfl⟩ := four4 hl'
  have hn' : xs.length = 4 := hn
  obtain ⟨y0, e0⟩ := some_of hn' (show 0 < 4 by omega)
  obtain ⟨y1, e1⟩ := some_of hn' (show 1 < 4 by omega)
  obtain ⟨y2, e2⟩ := some_of hn' (show 2 < 4 by omega)
  obtain ⟨y3, e3⟩ := some_of hn' (show 3 < 4 by omega)
  have g0 := field_at hf 0 22 0 1 rfl cellsOps e0
  have g1 := field_at hf 1 9 1 1 rfl cellsStr e1
  have g2 := field_at hf 2 9 2 1 rfl cellsStr e2
  have g3 := field_at hf 3 9 3 1 rfl cellsStr e3
  simp only [Value.cells, List.drop_zero, List.drop_succ_cons, List.take_succ_cons, List.take_zero] at g0 g1 g2 g3
  obtain ⟨A, c, l, k0, hC, hlc⟩ := ops_cells_of g0
  obtain ⟨n1, k1⟩ := str_cell g1
  obtain ⟨n2, k2⟩ := str_cell g2
  obtain ⟨n3, k3⟩ := str_cell g3
  simp only [List.cons.injEq, and_true] at k0
  refine ⟨A, c, l, n1.data.toList, n2.data.toList, n3.data.toList, ?_, hC, hlc⟩
  rw [k0, k1, k2, k3, mk_data, mk_data, mk_data]
end
end Go.Proofs.YtaccokghjpcijaaGreatDoor
set_option linter.unusedVariables false
set_option linter.unusedSimpArgs false
namespace Go.Proofs.YtaccokghjpcijaaGreatDoor
open Go Go.RowKit Pp Go.Proofs.YtaccokghjpcijaaGreatDoorW.PrintWords

abbrev OpP := PModelScripts.S35
/-- Is an op of few bytes? -/
def smallO (o : Ask) : Bool := decide (o.path.length ≤ 600 ∧ o.dst.length ≤ 600 ∧ o.data.length ≤ 2000)
def smallL (l : List Ask) (most : Int) : Bool := l.all smallO && decide ((l.length : Int) ≤ most)
theorem size_list (s : ByteArray) : s.size = s.data.toList.length := by rw [← mk_size, mk_data]
theorem rdop {l : List OpP} {i : Nat} {q : OpP} (h : l[i]? = some q) : PModelScripts.rd_T35 l (i : Int) = q := by
  unfold PModelScripts.rd_T35
  rw [Int.toNat_natCast, List.getD_eq_getElem?_getD, h]
  rfl
theorem small_loop (l : List OpP) (most : Int) (hl : l.length ≤ 9223372036854775807) : ∀ (n i k : Nat), l.length - i ≤ n → i ≤ l.length → n < k → PModelScripts.permafrostref17_Small.l0 k l most i = some ((l.drop i).all (fun q => smallO (askP q)) && decide ((l.length : Int) ≤ most)) := by
  intro n
  induction n with
  | zero =>
    intro i k hn hi hk
    obtain ⟨k, rfl⟩ : ∃ m, k = m + 1 := ⟨k - 1, by omega⟩
    have he : i = l.length := by omega
    subst he
    unfold PModelScripts.permafrostref17_Small.l0
    rw [if_neg (by omega), List.drop_of_length_le (Nat.le_refl _)]
    simp
  | succ n ih =>
    intro i k hn hi hk
    obtain ⟨k, rfl⟩ : ∃ m, k = m + 1 := ⟨k - 1, by omega⟩
    by_cases hlt : i < l.length
    · obtain ⟨q, hq⟩ : ∃ q, l[i]? = some q := ⟨_, List.getElem?_eq_getElem hlt⟩
      have hd : l.drop i = q :: l.drop (i + 1) := by
        obtain ⟨_, rfl⟩ := List.getElem?_eq_some_iff.1 hq
        exact List.drop_eq_getElem_cons hlt
      unfold PModelScripts.permafrostref17_Small.l0
      rw [if_pos (by omega), if_pos (by omega), rdop hq, hd, List.all_cons]
      have hw : wrap64 ((i : Int) + 1) = ((i + 1 : Nat) : Int) := by unfold wrap64; omega
      have e1 := size_list q.f1
      have e2 := size_list q.f2
      have e5 := size_list q.f5
      by_cases h1 : ((q.f1.size : Int) > 600)
      · rw [if_pos h1]
        have : smallO (askP q) = false := by unfold smallO askP; simp only [decide_eq_false_iff_not]; omega
        rw [this]; rfl
      · rw [if_neg h1]
        by_cases h2 : ((q.f2.size : Int) > 600)
        · rw [if_pos h2]
          have : smallO (askP q) = false := by unfold smallO askP; simp only [decide_eq_false_iff_not]; omega
          rw [this]; rfl
        · rw [if_neg h2]
          by_cases h3 : ((q.f5.size : Int) > 2000)
          · rw [if_pos h3]
            have : smallO (askP q) = false := by unfold smallO askP; simp only [decide_eq_false_iff_not]; omega
            rw [this]; rfl
          · rw [if_neg h3, hw, ih (i + 1) k (by omega) (by omega) (by omega)]
            have : smallO (askP q) = true := by unfold smallO askP; simp only [decide_eq_true_eq]; omega
            rw [this]; rfl
    · have he : i = l.length := by omega
      subst he
      unfold PModelScripts.permafrostref17_Small.l0
      rw [if_neg (by omega), List.drop_of_length_le (Nat.le_refl _)]
      simp
theorem small_calls (A : Option Addr) (c : Nat) (l : List OpP) (most : Int) (r : Bool) (w : World) (hC : Kd.C PModelScripts.k35 w A l.length l) (hc : l.length ≤ c) (hl : l.length ≤ 9223372036854775807) (hr : smallL (l.map askP) most = r) :
    Calls Tryz.prog 10 #[.slice A l.length c, .int .i64 most] w fun e w' => e = .returned (.bool r) ∧ Below w.heap.size w w' := by
  have hf : PModelScripts.permafrostref17_Small.f (l.length + 1) l most = some r := by
    have := small_loop l most hl l.length 0 (l.length + 1) (by omega) (Nat.zero_le _) (by omega)
    rw [List.drop_zero] at this
    rw [← hr]
    unfold PModelScripts.permafrostref17_Small.f smallL
    rw [List.all_map, List.length_map]
    exact this
  refine (PModelScripts.permafrostref17_Small.calls (l.length + 1) A c l most r w hC hc hf).mono ?_
  rintro e w' ⟨rfl, hd⟩
  exact ⟨rfl, hd.below⟩
theorem small_mem {l : List Ask} {most : Int} (h : smallL l most = true) : (l.length : Int) ≤ most ∧ ∀ o ∈ l, o.path.length ≤ 600 ∧ o.dst.length ≤ 600 ∧ o.data.length ≤ 2000 := by
  unfold smallL at h
  rw [Bool.and_eq_true, List.all_eq_true, decide_eq_true_eq] at h
  refine ⟨h.2, fun o ho => ?_⟩
  have := h.1 o ho
  unfold smallO at this
  simpa using this
/-- The cells of one op of a script. -/
theorem op_cells {w : World} {A : Option Addr} {l : List OpP} {i : Nat} {q : OpP} (hC : Kd.C PModelScripts.k35 w A l.length l) (hq : l[i]? = some q) :
    ∃ ad, A = some ad ∧ w.cell? (ad.add (i * 6)) = some (.int .i64 q.f0) ∧ w.cell? ⟨(ad.add (i * 6)).block, (ad.add (i * 6)).off + 1, none⟩ = some (.string q.f1) ∧ w.cell? ⟨(ad.add (i * 6)).block, (ad.add (i * 6)).off + 2, none⟩ = some (.string q.f2) ∧
      w.cell? ⟨(ad.add (i * 6)).block, (ad.add (i * 6)).off + 3, none⟩ = some (.int .i64 q.f3) ∧ w.cell? ⟨(ad.add (i * 6)).block, (ad.add (i * 6)).off + 4, none⟩ = some (.int .i64 q.f4) ∧ w.cell? ⟨(ad.add (i * 6)).block, (ad.add (i * 6)).off + 5, none⟩ = some (.string q.f5) := by
  have hlt : i < l.length := (List.getElem?_eq_some_iff.1 hq).1
  have := PModelScripts.at_T35 hC (i : Int) (by omega) (by omega)
  rw [rdop hq, Int.toNat_natCast] at this
  exact this
/-- A tree in a law, behind k ops, in memory that the law has made. -/
structure At (w0 : World) (k : Nat) (W : World) (F : Nat → Prop) (tb : Nat) (g : St) : Prop where
  ts : TS k W F tb g
  below : Below w0.heap.size w0 W
  low : ∀ b, F b → w0.heap.size ≤ b
theorem At.step {w0 W W' : World} {k k' : Nat} {F F' : Nat → Prop} {tb : Nat} {g g' : St} (h : At w0 k W F tb g) (hT : TS k' W' F' tb g') (hX : Ext F W F' W') : At w0 k' W' F' tb g' := by
  obtain ⟨h1, h2⟩ := hX.below h.below.size h.low
  exact ⟨hT, h.below.trans h1, h2⟩
theorem At.more {w0 W W' : World} {k : Nat} {F : Nat → Prop} {tb : Nat} {g : St} (h : At w0 k W F tb g) (hb : Below W.heap.size W W') : At w0 k W' F tb g := ⟨h.ts.below hb, bstep h.below hb, h.low⟩
theorem do_q {k : Nat} {W : World} {F : Nat → Prop} {tb : Nat} {g : St} (h : TS k W F tb g) (hk : k < 100) (q : OpP) (hp : (askP q).path.length ≤ 1048576) (hd : (askP q).dst.length ≤ 1048576) (hda : (askP q).data.length ≤ 1048576) :
    Calls Tryz.prog 13 #[.pointer (some ⟨tb, 0, none⟩), .agg #[.int .i64 q.f0, .string q.f1, .string q.f2, .int .i64 q.f3, .int .i64 q.f4, .string q.f5]] W (DoTS k W F tb (step g (askP q))) := by
  rw [← opV_askP]
  exact do_ts h hk (askP q) hp hd hda
theorem do_q_tab {k : Nat} {W : World} {F : Nat → Prop} {tb : Nat} {g : St} (h : TS k W F tb g) (hk : k < 1000) (ht : TabW W) (q : OpP) (hp : (askP q).path.length ≤ 1048576) (hd : (askP q).dst.length ≤ 1048576) (hda : (askP q).data.length ≤ 1048576) :
    Calls Tryz.prog 13 #[.pointer (some ⟨tb, 0, none⟩), .agg #[.int .i64 q.f0, .string q.f1, .string q.f2, .int .i64 q.f3, .int .i64 q.f4, .string q.f5]] W (DoTS k W F tb (step g (askP q))) := by
  rw [← opV_askP]
  exact do_ts_tab h hk ht (askP q) hp hd hda
theorem zeros_calls (k : Nat) (v : Int) (hv : v = k) (hk : k ≤ 65536) (w : World) : Calls Tryz.prog 15 #[.int .i64 v] w fun e w' => e = .returned (.string (mk (List.replicate k 0))) ∧ Below w.heap.size w w' := by
  subst hv
  refine PModelScripts.permafrostref17_Zeros.calls k (mk (List.replicate k 0)) w ?_
  unfold PModelScripts.permafrostref17_Zeros.f
  rw [if_pos (by omega), if_pos (by rw [Int.toNat_natCast]; omega), Int.toNat_natCast]
  simp [strOfNums, mk, List.map_replicate]
theorem run_snoc (g : St) : ∀ (l : List Ask) (o : Ask), run g (l ++ [o]) = (step (run g l) o).1
  | [], o => rfl
  | p :: l, o => run_snoc (step g p).1 l o
theorem run_take {g : St} {l : List OpP} {i : Nat} {q : OpP} (h : l[i]? = some q) : run g ((l.map askP).take (i + 1)) = (step (run g ((l.map askP).take i)) (askP q)).1 := by
  have h' : (l.map askP)[i]? = some (askP q) := by rw [List.getElem?_map, h]; rfl
  obtain ⟨hlt, e⟩ := List.getElem?_eq_some_iff.1 h'
  rw [List.take_succ_eq_append_getElem hlt, run_snoc, e]
end Go.Proofs.YtaccokghjpcijaaGreatDoor
set_option linter.unusedVariables false
set_option linter.unusedSimpArgs false
namespace Go.Proofs.YtaccokghjpcijaaGreatDoor
open Go Go.RowKit Pp

/-! ### plain laws -/
theorem step_read {g : St} {o : Ask} (h : o.do_ = 6) : step g o = readS g o := by unfold step; simp [h]
theorem step_write {g : St} {o : Ask} (h : o.do_ = 7) : step g o = writeS g o := by unfold step; simp [h]
theorem step_stat {g : St} {o : Ask} (h : o.do_ = 9) : step g o = statS g o := by unfold step; simp [h]
theorem step_list {g : St} {o : Ask} (h : o.do_ = 10) : step g o = listS g o := by unfold step; simp [h]
theorem step_rename {g : St} {o : Ask} (h : o.do_ = 5) : step g o = renameS g o := by unfold step; simp [h]

/-! #### what is written is read -/
/-- What ModelWritten asks of the four answers. -/
def writtenOk (was w now got : Ans) (off : Nat) (data : Str) : Prop :=
  (w.code ≠ 0 → w.code = was.code ∧ now.code = was.code) ∧
  (w.code = 0 → data = [] → was = now) ∧
  (w.code = 0 → data ≠ [] → now.data.length = max was.data.length (off + data.length) ∧ got.data = data ∧ w.n = data.length ∧
    now.data.take off = (was.data ++ List.replicate (max was.data.length (off + data.length) - was.data.length) 0).take off ∧
    now.data.drop (off + data.length) = (was.data ++ List.replicate (max was.data.length (off + data.length) - was.data.length) 0).drop (off + data.length)) ∧ was.data.length ≤ 16384 ∧ now.data.length ≤ 16384 ∧ was.names = []
theorem read_err {g : St} {o : Ask} {c : Int} (h : kind g o.path false = .error c) : readS g o = (g, told c) := by unfold readS; rw [h]
theorem read_ok {g : St} {o : Ask} {x : Nat} (h : kind g o.path false = .ok x) (h1 : 0 ≤ o.off) (h2 : 0 ≤ o.len) : readS g o = (g, ⟨0, (((g.node x).bytes.drop o.off.toNat).take o.len.toNat).length, ((g.node x).bytes.drop o.off.toNat).take o.len.toNat, []⟩) := by
  unfold readS
  rw [h]
  simp only
  rw [if_neg (by omega)]
theorem sized_take {s : Str} {a n : Nat} (hn : s.length ≤ n) : (sizedS s n) = s ++ List.replicate (n - s.length) 0 := by
  unfold sizedS
  split
  · have : n = s.length := by omega
    subst this
    rw [Nat.sub_self, List.take_of_length_le (Nat.le_refl _)]
    simp
  · rfl
theorem written_plain {g : St} (hI : Inv g) (name data : Str) (off : Nat) (ho : off ≤ 10000) (hd : data.length ≤ 2000) :
    let was := (step g ⟨6, name, [], 0, 20000, []⟩)
    let w := (step was.1 ⟨7, name, [], off, 0, data⟩)
    let now := (step w.1 ⟨6, name, [], 0, 20000, []⟩)
    let got := (step now.1 ⟨6, name, [], off, data.length, []⟩)
    writtenOk was.2 w.2 now.2 got.2 off data := by
  intro was w now got
  have hwas : was = readS g ⟨6, name, [], 0, 20000, []⟩ := step_read rfl
  cases hk : kind g name false with
  | error c =>
    have e1 : was = (g, told c) := by rw [hwas]; exact read_err hk
    have e2 : w = (g, told c) := by
      show step was.1 _ = _
      rw [e1, step_write rfl]
      unfold writeS
      rw [hk]
    have e3 : now = (g, told c) := by
      show step w.1 _ = _
      rw [e2, step_read rfl]
      exact read_err hk
    have hc : c ≠ 0 := by have := kind_err hk; omega
    rw [e1, e2, e3]
    refine ⟨fun _ => ⟨rfl, rfl⟩, fun h => absurd h hc, fun h => absurd h hc, by simp [told], by simp [told], rfl⟩
  | ok x =>
    have hx := hI.small x
    have e1 : was = (g, ⟨0, (g.node x).bytes.length, (g.node x).bytes, []⟩) := by
      rw [hwas, read_ok hk (show (0 : Int) ≤ 0 by decide) (show (0 : Int) ≤ 20000 by decide)]
      show (g, _) = (g, _)
      have : ((g.node x).bytes.drop (0 : Int).toNat).take (20000 : Int).toNat = (g.node x).bytes := by
        show ((g.node x).bytes.drop 0).take 20000 = _
        rw [List.drop_zero, List.take_of_length_le (by omega)]
      simp only [this]
    have e2 : w = (if data = [] then g else setB g x (wrote (g.node x).bytes off data), ⟨0, data.length, [], []⟩) := by
      show step was.1 _ = _
      rw [e1, step_write rfl]
      rcases write_cases (g := g) ⟨7, name, [], off, 0, data⟩ with ⟨c, e, h⟩ | ⟨y, hy, h1, h2, e⟩
      · rcases h with ⟨y, hy, h | h⟩ | h
        · have := h.1; simp at this; omega
        · have := h.1; simp at this; omega
        · rw [hk] at h; cases h
      · rw [hk] at hy
        cases hy
        simpa using e
    have hlen : (wrote (g.node x).bytes off data).length ≤ 16384 := by rw [wrote_length]; omega
    by_cases hdn : data = []
    · rw [if_pos hdn] at e2
      have e3 : now = was := by
        show step w.1 _ = _
        rw [e2, hwas]
        exact step_read rfl
      rw [e2, e3, e1]
      exact ⟨fun h => absurd rfl h, fun _ _ => rfl, fun _ h => absurd hdn h, hx, hx, rfl⟩
    · rw [if_neg hdn] at e2
      have hk' : kind (setB g x (wrote (g.node x).bytes off data)) name false = .ok x := by rw [kind_ents (fun i => setB_ents)]; exact hk
      have hb : ((setB g x (wrote (g.node x).bytes off data)).node x).bytes = wrote (g.node x).bytes off data := by rw [setB_bytes, if_pos rfl]
      have e3 : now = (setB g x (wrote (g.node x).bytes off data), ⟨0, (wrote (g.node x).bytes off data).length, wrote (g.node x).bytes off data, []⟩) := by
        show step w.1 _ = _
        rw [e2, step_read rfl, read_ok hk' (show (0 : Int) ≤ 0 by decide) (show (0 : Int) ≤ 20000 by decide), hb]
        have : ((wrote (g.node x).bytes off data).drop (0 : Int).toNat).take (20000 : Int).toNat = wrote (g.node x).bytes off data := by
          show ((wrote (g.node x).bytes off data).drop 0).take 20000 = _
          rw [List.drop_zero, List.take_of_length_le (by omega)]
        simp only [this]
      have hS := sized_length (s := (g.node x).bytes) (n := max (g.node x).bytes.length (off + data.length))
      have hpre : ((sizedS (g.node x).bytes (max (g.node x).bytes.length (off + data.length))).take off).length = off := by rw [List.length_take, hS]; omega
      have e4 : got = (setB g x (wrote (g.node x).bytes off data), ⟨0, data.length, data, []⟩) := by
        show step now.1 _ = _
        rw [e3, step_read rfl, read_ok hk' (Int.natCast_nonneg _) (Int.natCast_nonneg _), hb]
        have : ((wrote (g.node x).bytes off data).drop ((off : Int)).toNat).take ((data.length : Int)).toNat = data := by
          rw [Int.toNat_natCast, Int.toNat_natCast]
          unfold wrote
          rw [List.append_assoc, List.drop_left' hpre, List.take_left]
        simp only [this]
      rw [e1, e2, e3, e4]
      refine ⟨fun h => absurd rfl h, fun _ h => absurd h hdn, fun _ _ => ⟨wrote_length, rfl, rfl, ?_, ?_⟩, hx, hlen, rfl⟩
      · show (wrote (g.node x).bytes off data).take off = _
        rw [← sized_take (a := off) (Nat.le_max_left _ _)]
        unfold wrote
        rw [List.append_assoc, List.take_left' hpre]
      · show (wrote (g.node x).bytes off data).drop (off + data.length) = _
        rw [← sized_take (a := off) (Nat.le_max_left _ _)]
        unfold wrote
        exact List.drop_left' (by rw [List.length_append, hpre])
theorem written_at {g g1 g2 g3 g4 : St} {a1 a2 a3 a4 : Ans} (hI : Inv g) {name data : Str} {off : Nat} (ho : off ≤ 10000) (hd : data.length ≤ 2000) (h1 : step g ⟨6, name, [], 0, 20000, []⟩ = (g1, a1)) (h2 : step g1 ⟨7, name, [], off, 0, data⟩ = (g2, a2))
    (h3 : step g2 ⟨6, name, [], 0, 20000, []⟩ = (g3, a3)) (h4 : step g3 ⟨6, name, [], off, data.length, []⟩ = (g4, a4)) : writtenOk a1 a2 a3 a4 off data := by
  have := written_plain hI name data off ho hd
  simp only [h1, h2, h3, h4] at this
  exact this
end Go.Proofs.YtaccokghjpcijaaGreatDoor
