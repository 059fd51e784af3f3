/-
  What a directory lists leads somewhere, and its number is what Stat tells: whatever the script and the path (of more than 30 ops, or of longer ones, nothing is asked but the document's examples). The listed tables stand as the library's text lays them (tied).
-/
import Derived.Test.YtaccokghjpcijaaGreatDoorMH
import Derived.Test.YtaccokghjpcijaaGreatDoorMS
import Derived.Deep.QuietTactic
import Derived.BigQuiet
import Derived.BigRegion
import Derived.RegionTactic
import Derived.Deep.RegionWith
import Derived.Deep.RegionHeld3
set_option linter.unusedVariables false
set_option linter.unusedSimpArgs false
namespace Go.Proofs.YtaccokghjpcijaaGreatDoor
open Go Go.RowKit Pp

/-! #### what is listed leads somewhere -/
theorem sortS_mem {l : List Str} {x : Str} : x ∈ sortS l ↔ x ∈ l := by unfold sortS; exact List.mem_mergeSort
theorem sortS_length (l : List Str) : (sortS l).length = l.length := by unfold sortS; exact List.length_mergeSort _
theorem str_le_trans {a b c : Str} (h : a ≤ b) (h' : b ≤ c) : a ≤ c := List.le_trans h h'
theorem str_le_total (a b : Str) : a ≤ b ∨ b ≤ a := List.le_total a b
theorem str_lt {a b : Str} (h : a ≤ b) (hne : a ≠ b) : a < b := Std.lt_of_le_of_ne h hne
theorem sortS_strict {l : List Str} (h : l.Nodup) : (sortS l).Pairwise (fun x y => x < y) := by
  have h1 : (sortS l).Pairwise (fun x y => decide (x ≤ y) = true) := by
    unfold sortS
    refine List.pairwise_mergeSort (fun a b c h1 h2 => ?_) (fun a b => ?_) l
    · exact decide_eq_true (str_le_trans (of_decide_eq_true h1) (of_decide_eq_true h2))
    · rcases str_le_total a b with h | h
      · simp [h]
      · simp [h]
  have h2 : (sortS l).Nodup := (List.mergeSort_perm l _).nodup_iff.2 h
  refine (List.Pairwise.and h1 h2).imp ?_
  rintro a b ⟨h1, h2⟩
  exact str_lt (of_decide_eq_true h1) h2
/-- What ModelListed asks of a state and two answers. -/
structure ListedOk (g : St) (dir : Str) (l s : Ans) : Prop where
  bad : l.code ≠ 0 → s.code = l.code ∨ (l.code = 11 ∧ s.data = fileT)
  good : l.code = 0 → s.code = 0 ∧ s.data = dirT ∧ s.n = l.names.length ∧ errV dir = 0
  each : l.code = 0 → ∀ (i : Nat) (n : Str), l.names[i]? = some n → (step g ⟨9, join (namesV dir ++ [n]), [], 0, 0, []⟩).1 = g ∧ (step g ⟨9, join (namesV dir ++ [n]), [], 0, 0, []⟩).2.code = 0 ∧ (join (namesV dir ++ [n])).length ≤ 1048576
  inc : l.code = 0 → ∀ (i : Nat) (m n : Str), l.names[i]? = some m → l.names[i + 1]? = some n → m < n
  short : (namesV dir).length ≤ 600
theorem join_names_bound {ns : List Str} (h : ∀ p ∈ ns, okName p = true ∧ (47 : UInt8) ∉ p) (hn : ns.length ≤ 601) : (join ns).length ≤ 1048576 := by
  cases ns with
  | nil => decide
  | cons x t =>
    rw [join_flat (by simp)]
    have h1 := flat_bound (b := 255) (x :: t) (fun y hy => ((okName_iff y).1 (h y hy).1).2.2.2.1)
    have h2 : (x :: t).length * (255 + 1) ≤ 601 * 256 := Nat.mul_le_mul_right _ hn
    omega
theorem listed_plain {g g1 g2 : St} {l s : Ans} (hI : Inv g) {dir : Str} (hd : dir.length ≤ 600) (h1 : step g ⟨10, dir, [], 0, 0, []⟩ = (g1, l)) (h2 : step g1 ⟨9, dir, [], 0, 0, []⟩ = (g2, s)) : g1 = g ∧ g2 = g ∧ ListedOk g dir l s := by
  rw [step_list rfl] at h1
  have e1 : g1 = g := by rw [← list_same g ⟨10, dir, [], 0, 0, []⟩, h1]
  subst e1
  rw [step_stat rfl] at h2
  have e2 : g2 = g1 := by rw [← stat_same g1 ⟨9, dir, [], 0, 0, []⟩, h2]
  subst e2
  have hsh : (namesV dir).length ≤ 600 := Nat.le_trans (namesV_length dir) hd
  refine ⟨rfl, rfl, ?_⟩
  unfold statS at h2
  unfold listS kind at h1
  simp only at h1 h2
  cases hl : leads g2 dir with
  | error c =>
    rw [hl] at h1 h2
    simp only [Prod.mk.injEq, true_and] at h1 h2
    subst h1
    subst h2
    have hc : c ≠ 0 := by have := leads_err hl; omega
    exact ⟨fun _ => .inl rfl, fun h => absurd h hc, fun h => absurd h hc, fun h => absurd h hc, hsh⟩
  | ok x =>
    rw [hl] at h1 h2
    by_cases hx : isDir g2 x = true
    · simp only [hx, Bool.true_eq_false, and_false, false_and, if_false, if_true, Prod.mk.injEq, true_and] at h1 h2
      subst h1
      subst h2
      obtain ⟨ns, hs, hg⟩ := leads_go.1 hl
      have hN : namesV dir = ns := by unfold namesV; rw [hs]; rfl
      refine ⟨fun h => absurd rfl h, fun _ => ⟨rfl, rfl, ?_, ?_⟩, fun _ i n hn => ?_, fun _ i m n hm hn => ?_, hsh⟩
      · simp [sortS_length]
      · unfold errV; rw [hs]; rfl
      · have hmem : n ∈ (entsOf g2 x).map (·.1) := sortS_mem.1 (List.mem_of_getElem? hn)
        obtain ⟨p, hp, rfl⟩ := List.mem_map.1 hmem
        have hnm := (hI.ent x p hp).2.2
        have hok : ∀ q ∈ ns ++ [p.1], okName q = true ∧ (47 : UInt8) ∉ q := by
          intro q hq
          rcases List.mem_append.1 hq with hq | hq
          · exact split_names hs q hq
          · have : q = p.1 := by simpa using hq
            subst this
            exact hnm
        have hlk : leads g2 (join (ns ++ [p.1])) = .ok p.2 := leads_go.2 ⟨_, split_join hok, by rw [go_snoc, hg]; exact (look_iff (hI.nodup x)).2 hp⟩
        rw [hN, step_stat rfl]
        refine ⟨stat_same _ _, ?_, join_names_bound hok (by rw [List.length_append, List.length_singleton, ← hN]; omega)⟩
        unfold statS
        simp only
        rw [hlk]
        simp only
        split <;> rfl
      · have hp := sortS_strict (hI.nodup x)
        obtain ⟨a1, b1⟩ := List.getElem?_eq_some_iff.1 hm
        obtain ⟨a2, b2⟩ := List.getElem?_eq_some_iff.1 hn
        have := List.pairwise_iff_getElem.1 hp i (i + 1) a1 a2 (by omega)
        rw [b1, b2] at this
        exact this
    · have hx' : isDir g2 x = false := by simpa using hx
      simp only [hx', Bool.false_eq_true, and_false, false_and, and_self, if_false, if_true, Prod.mk.injEq, true_and] at h1 h2
      subst h1
      subst h2
      exact ⟨fun _ => .inr ⟨rfl, rfl⟩, fun h => absurd h (by decide), fun h => absurd h (by decide), fun h => absurd h (by decide), hsh⟩
end Go.Proofs.YtaccokghjpcijaaGreatDoor
set_option linter.unusedVariables false
set_option linter.unusedSimpArgs false
namespace Go.Proofs.YtaccokghjpcijaaGreatDoor
open Go Go.RowKit Pp Go.Proofs.YtaccokghjpcijaaGreatDoorW.PrintWords

theorem names_first {w : World} {v : Value} {ns : List Str} (h : Strs w v ns) : ∃ A c, v = .slice A ns.length c ∧ ns.length ≤ c ∧ (ns = [] ∨ ∃ y t bk o, ns = y :: t ∧ A = some ⟨bk, o, none⟩ ∧ bk < w.heap.size ∧ w.cell? ⟨bk, o, none⟩ = some (.string (mk y))) := by
  obtain ⟨A, c, rfl, hc, hC⟩ := h.kd
  refine ⟨A, c, rfl, hc, ?_⟩
  cases ns with
  | nil => exact .inl rfl
  | cons y t =>
    obtain ⟨bk, o, c', e, _, hlt, hcell⟩ := h.cells (by simp)
    simp only [Value.slice.injEq] at e
    obtain ⟨rfl, _, rfl⟩ := e
    exact .inr ⟨y, t, bk, o, rfl, rfl, hlt, hcell 0 y rfl⟩
theorem names_at {W : World} {A : Option Addr} {n c : Nat} {ns : List Str} (h : Strs W (.slice A n c) ns) (hn : 0 < ns.length) : ∃ ad, A = some ad ∧ ∀ (i : Nat) (y : Str), ns[i]? = some y → W.cell? (ad.add i) = some (.string (mk y)) := by
  obtain ⟨A', c', e, hc, hC⟩ := h
  injection e with e1 e2 e3
  subst e1
  obtain ⟨ad, e, _⟩ := Kd.at_string hC (0 : Int) (by omega) (by omega)
  refine ⟨ad, e, fun i y hy => ?_⟩
  obtain ⟨hi, _⟩ := List.getElem?_eq_some_iff.1 hy
  obtain ⟨ad', e', hh⟩ := Kd.at_string hC (i : Int) (by omega) (by omega)
  rw [e] at e'
  injection e' with e'
  subst e'
  rw [rd_mk ns i y hy, Int.toNat_natCast] at hh
  exact hh
/-- An op that a law holds in a box. -/
theorem op6 {w : World} {b : Nat} {v0 v1 v2 v3 v4 v5 : Value} {t : TypeId} (h : w.heap[b]? = some (.cells #[v0, v1, v2, v3, v4, v5] t)) :
    w.cell? ⟨b, 0, none⟩ = some v0 ∧ w.cell? ⟨b, 1, none⟩ = some v1 ∧ w.cell? ⟨b, 2, none⟩ = some v2 ∧ w.cell? ⟨b, 3, none⟩ = some v3 ∧ w.cell? ⟨b, 4, none⟩ = some v4 ∧ w.cell? ⟨b, 5, none⟩ = some v5 :=
  ⟨heap_cell h 0 _ rfl, heap_cell h 1 _ rfl, heap_cell h 2 _ rfl, heap_cell h 3 _ rfl, heap_cell h 4 _ rfl, heap_cell h 5 _ rfl⟩
theorem block_keep {w w' : World} {b : Nat} {o : Obj} (h : w.heap[b]? = some o) (hb : Below w.heap.size w w') : w'.heap[b]? = some o := (hb.block b (some_lt h)).trans h
theorem askP_mk (f0 f3 f4 : Int) (s1 s2 s5 : Str) : askP ⟨f0, mk s1, mk s2, f3, f4, mk s5⟩ = ⟨f0, s1, s2, f3, f4, s5⟩ := by
  unfold askP
  simp only [mk_toList]
theorem take_map {l : List OpP} {P : Ask → Prop} (h : ∀ o ∈ l.map askP, P o) {k : Nat} {q : OpP} (hq : l[k]? = some q) : P (askP q) := h (askP q) (List.mem_of_getElem? (by rw [List.getElem?_map, hq]; rfl))
end Go.Proofs.YtaccokghjpcijaaGreatDoor
set_option linter.unusedVariables false
set_option linter.unusedSimpArgs false
namespace Go.Proofs.YtaccokghjpcijaaGreatDoor
open Go Go.RowKit Pp Go.Proofs.YtaccokghjpcijaaGreatDoorW.PrintWords

/-- A slice of texts that a law holds; the tree doesn't reach it. -/
structure Held (ns : List Str) (A : Option Addr) (c : Nat) (F : Nat → Prop) (W : World) : Prop where
  names : Strs W (.slice A ns.length c) ns
  nN : ns ≠ [] → ∀ bk o, A = some ⟨bk, o, none⟩ → ¬ F bk ∧ bk < W.heap.size
theorem Held.ext {ns : List Str} {A : Option Addr} {c : Nat} {F F' : Nat → Prop} {w w' : World} (h : Held ns A c F w) (hX : Ext F w F' w') : Held ns A c F' w' where
  names := by
    by_cases hne : ns = []
    · subst hne
      exact Strs.nil w' c A
    · exact h.names.kept (fun bk o n c e => by
        cases e
        obtain ⟨h1, h2⟩ := h.nN hne bk o rfl
        exact hX.fr.block bk h2 h1)
  nN := fun hne bk o e => by
    obtain ⟨h1, h2⟩ := h.nN hne bk o e
    exact ⟨hX.notin h2 h1, Nat.lt_of_lt_of_le h2 hX.fr.size⟩
theorem split_held (l : Str) (x : Int) (hx : errV l = x) (hl : l.length ≤ 4398046511104) (w : World) {F : Nat → Prop} (hF : ∀ b, F b → b < w.heap.size) : Calls Tryz.prog 17 #[.string (mk l)] w fun e w' => ∃ A c, e = .returned (.tuple #[.slice A (namesV l).length c, .int .i64 x]) ∧ Held (namesV l) A c F w' ∧ (namesV l = [] → A = none ∧ c = 0) ∧ Below w.heap.size w w' := by
  subst hx
  refine (split_fresh l hl w).mono ?_
  rintro e w' ⟨hB, ⟨hs, rfl⟩ | ⟨ns, v, hs, rfl, hst, hnil, hfr⟩⟩
  · have e1 : namesV l = [] := by unfold namesV; rw [hs]; rfl
    have e2 : errV l = 12 := by unfold errV; rw [hs]; rfl
    rw [e1, e2]
    exact ⟨none, 0, rfl, ⟨Strs.nil w' 0 none, fun h => absurd rfl h⟩, fun _ => ⟨rfl, rfl⟩, hB⟩
  · have e1 : namesV l = ns := by unfold namesV; rw [hs]; rfl
    have e2 : errV l = 0 := by unfold errV; rw [hs]; rfl
    rw [e1, e2]
    obtain ⟨A, c, rfl, _, _⟩ := id hst
    refine ⟨A, c, rfl, ⟨hst, fun hne bk o e => ?_⟩, fun e => by have := hnil e; injection this with h1 h2 h3; exact ⟨h1, h3⟩, hB⟩
    have h1 := hfr bk o _ c (by rw [e])
    exact ⟨fun hf => by have := hF bk hf; omega, names_lt hst hne bk o e⟩
theorem names_cell {a : Ans} {A : Option Addr} {c b m : Nat} {F : Nat → Prop} {w : World} (h : Go.Proofs.YtaccokghjpcijaaGreatDoor.Boxed a A c b F w) (hm : a.names.length = m) : w.cell? ⟨b, 3, none⟩ = some (.slice A m c) := by
  have := h.cells.2.2.2
  rw [hm] at this
  exact this
theorem names_next {a : Ans} {ad : Addr} {c b m i : Nat} {y : Str} {F : Nat → Prop} {w : World} (h : Go.Proofs.YtaccokghjpcijaaGreatDoor.Boxed a (some ad) c b F w) (hm : a.names.length = m) (hy : a.names[i]? = some y) : w.cell? (ad.add i) = some (.string (mk y)) := by
  obtain ⟨hi, _⟩ := List.getElem?_eq_some_iff.1 hy
  obtain ⟨ad', e, hh⟩ := names_at h.names (by omega)
  injection e with e
  subst e
  exact hh i y hy
theorem names_first_at {a : Ans} {ad : Addr} {c b m : Nat} {y : Str} {F : Nat → Prop} {w : World} (h : Go.Proofs.YtaccokghjpcijaaGreatDoor.Boxed a (some ad) c b F w) (hm : a.names.length = m) (hy : a.names[0]? = some y) : w.cell? ad = some (.string (mk y)) := by
  have := names_next h hm hy
  unfold Addr.add at this
  rw [if_pos rfl] at this
  exact this
theorem svals_at {W : World} {bk o : Nat} {ini : List Str} (hcell : ∀ j x, ini[j]? = some x → W.cell? ⟨bk, o + j, none⟩ = some (.string (mk x))) : ∀ j u, (svals ini)[j]? = some u → W.cell? ((⟨bk, o, none⟩ : Addr).add j) = some u := fun j u hj => by
  unfold svals at hj
  rw [List.getElem?_map] at hj
  cases e : ini[j]? with
  | none => rw [e] at hj; cases hj
  | some y =>
    rw [e] at hj
    obtain rfl : Value.string (mk y) = u := by simpa using hj
    rw [← hcell j y e]
    unfold Addr.add
    split
    · rename_i h0; subst h0; rfl
    · rfl
/-- What the law about listed names holds on to, at each world of its round. -/
def Laid (w : World) (k tb : Nat) (g : St) (a1 a2 : Ans) (A1 A2 : Option Addr) (c1 c2 b1 b2 : Nat) (ini all : List Str) (AN A4 : Option Addr) (cN c4 : Nat) (W : World) : Prop :=
  ∃ F, At w k W F tb g ∧ Go.Proofs.YtaccokghjpcijaaGreatDoor.Boxed a1 A1 c1 b1 F W ∧ Go.Proofs.YtaccokghjpcijaaGreatDoor.Boxed a2 A2 c2 b2 F W ∧ Held ini AN cN F W ∧ Held all A4 c4 F W
section
variable {w : World} {k tb : Nat} {g : St} {a1 a2 : Ans} {A1 A2 : Option Addr} {c1 c2 b1 b2 : Nat} {ini all : List Str} {AN A4 : Option Addr} {cN c4 : Nat} {W W' : World}
theorem Laid.below (h : Laid w k tb g a1 a2 A1 A2 c1 c2 b1 b2 ini all AN A4 cN c4 W) (hb : Below W.heap.size W W') : Laid w k tb g a1 a2 A1 A2 c1 c2 b1 b2 ini all AN A4 cN c4 W' := by
  obtain ⟨F, h1, h2, h3, h4, h5⟩ := h
  exact ⟨F, h1.more hb, h2.ext (Ext.of_below hb), h3.ext (Ext.of_below hb), h4.ext (Ext.of_below hb), h5.ext (Ext.of_below hb)⟩
theorem Laid.strs (h : Laid w k tb g a1 a2 A1 A2 c1 c2 b1 b2 ini all AN A4 cN c4 W) {n : Nat} (hn : all.length = n) : Strs W (.slice A4 n c4) all := by
  obtain ⟨F, h1, h2, h3, h4, h5⟩ := h
  subst hn
  exact h5.names
theorem Laid.cell (h : Laid w k tb g a1 a2 A1 A2 c1 c2 b1 b2 ini all AN A4 cN c4 W) {m : Nat} (hm : a1.names.length = m) : W.cell? ⟨b1, 3, none⟩ = some (.slice A1 m c1) := by
  obtain ⟨F, h1, h2, h3, h4, h5⟩ := h
  exact names_cell h2 hm
theorem Laid.next {ad : Addr} (h : Laid w k tb g a1 a2 (some ad) A2 c1 c2 b1 b2 ini all AN A4 cN c4 W) {i : Nat} {y : Str} (hy : a1.names[i]? = some y) : W.cell? (ad.add i) = some (.string (mk y)) := by
  obtain ⟨F, h1, h2, h3, h4, h5⟩ := h
  exact names_next h2 rfl hy
theorem Laid.stat (h : Laid w k tb g a1 a2 A1 A2 c1 c2 b1 b2 ini all AN A4 cN c4 W) (hk : k < 100) {s : Str} (hs : s.length ≤ 1048576) {aq : Ans} (hr : step g ⟨9, s, [], 0, 0, []⟩ = (g, aq)) :
    Calls Tryz.prog 13 #[.pointer (some ⟨tb, 0, none⟩), .agg #[.int .i64 9, .string (mk s), .string ⟨#[]⟩, .int .i64 0, .int .i64 0, .string ⟨#[]⟩]] W fun e W' => ∃ A' c', e = .returned (.agg #[.int .i64 aq.code, .int .i64 aq.n, .string (mk aq.data), .slice A' aq.names.length c']) ∧ Laid w k tb g a1 a2 A1 A2 c1 c2 b1 b2 ini all AN A4 cN c4 W' := by
  obtain ⟨F, h1, h2, h3, h4, h5⟩ := h
  refine (do_at h1.ts hk ⟨9, s, [], 0, 0, []⟩ hs (by simp) (by simp) hr).mono ?_
  rintro e w6 ⟨F', A', c', rfl, hT, hX, hS, hA'⟩
  exact ⟨A', c', rfl, F', h1.step (⟨hT.tree, h1.ts.fine⟩ : TS k w6 F' tb g) hX, h2.ext hX, h3.ext hX, h4.ext hX, h5.ext hX⟩
end
theorem held_new {W : World} {base : Nat} {A : Option Addr} {c : Nat} {ns : List Str} {F : Nat → Prop} (h : Strs W (.slice A ns.length c) ns) (hb : ∀ k, (Value.slice A ns.length c).ownBlock = some k → base ≤ k) (hF : ∀ b, F b → b < base) : Held ns A c F W :=
  ⟨h, fun hne bk o e => ⟨fun hf => by have h1 := hF bk hf; have h2 := hb bk (by rw [e]; rfl); omega, names_lt h hne bk o e⟩⟩
theorem bytesLess_of_lt : ∀ {x y : Str}, x < y → Op.bytesLess x y = true
  | x, [], h => absurd h (List.not_lt_nil x)
  | [], b :: y, _ => rfl
  | a :: x, b :: y, h => by
    rcases List.cons_lt_cons_iff.1 h with h1 | ⟨h1, h2⟩
    · simp [Op.bytesLess, h1]
    · simp [Op.bytesLess, h1, bytesLess_of_lt h2]
theorem geq_false {P : Program} {x y : Str} (h : y < x) (t : TypeId) (w : World) : (binOp .geq t (.string (mk y)) (.string (mk x))).run P w = .ok (.bool false) w := by
  simp [binOp, Op.stringOp, mk_list, bytesLess_of_lt h]
end Go.Proofs.YtaccokghjpcijaaGreatDoor
set_option linter.unusedVariables false
set_option linter.unusedSimpArgs false
namespace Go.Proofs.YtaccokghjpcijaaGreatDoor
open Go Go.RowKit Go.Shelf Pp Go.Proofs.YtaccokghjpcijaaGreatDoorW.PrintWords Go.Proofs.YtaccokghjpcijaaGreatDoorW.PrintLast Go.Proofs.YtaccokghjpcijaaGreatDoorW.PrintMore
attribute [local go_sem] max2_int min2_int max_two min_two

set_option maxRecDepth 100000 in
set_option maxHeartbeats 8000000 in
theorem listed_walk {w : World} (A : Option Addr) (c : Nat) (l : List OpP) (hC : Kd.C PModelScripts.k35 w A l.length l) (hc : l.length ≤ c) (dir : Str) :
    Calls Tryz.prog 5 #[.slice A l.length c, .string (mk dir)] w fun e w' => e = .returned (.bool true) ∧ Below w.heap.size w w' := by
  have hl63 : l.length ≤ 9223372036854775807 := hC.2.1
  have hs1 : (mk dir).size = dir.length := mk_size _
  obtain ⟨n, hn⟩ : ∃ n, l.length = n := ⟨_, rfl⟩
  have HC := Lib.hid hC
  obtain ⟨r, hr⟩ : ∃ r, smallL (l.map askP) 30 = r := ⟨_, rfl⟩
  have hSm := fun W hW => small_calls A c l 30 r W (Kd.C_below hC hW) hc hl63 hr
  rw [hn] at hSm hc ⊢
  have HS := Lib.hid hSm
  have HN := Lib.hid hn
  have HR := Lib.hid hr
  clear hC hSm hn hl63 hr
  obtain ⟨i0, hi, hz0, hz1, hz2⟩ := info_parts Tryz.infoStr
  go_enter Tryz.func5, Tryz.ntmps5
  go_wp2_with fail
  have hb0 : Below w.heap.size w w := Below.refl _ _
  have HB0 := Lib.hid hb0
  refine (HS.out _ hb0).mono ?_
  rintro e w1 ⟨rfl, hB⟩
  have HB1 := Lib.hid (bstep HB0.out hB)
  clear hB hb0
  cases r with
  | false =>
    go_wp2_with fail
    refine (live_calls _).mono ?_
    rintro e wl ⟨rfl, hBl⟩
    have HBl := Lib.hid (bstep (HB1.out) hBl)
    clear hBl
    go_wp2_with fail
    go_ret
    exact ⟨rfl, HBl.out⟩
  | true =>
  have HSM := Lib.hid (small_mem HR.out)
  have hn30 : n ≤ 30 := by have h := HSM.out.1; rw [List.length_map, HN.out] at h; omega
  by_cases h1 : 600 < (dir.length : Int)
  · go_wp2_with fail
    refine (live_calls _).mono ?_
    rintro e wl ⟨rfl, hBl⟩
    have HBl := Lib.hid (bstep (HB1.out) hBl)
    clear hBl
    go_wp2_with fail
    go_ret
    exact ⟨rfl, HBl.out⟩
  go_wp2_with fail
  refine (new_ts _).mono ?_
  rintro e w2 ⟨tb, F0, rfl, hT, hB, hF0⟩
  have HA0 : Hid (At w (0 + 0) w2 F0 tb (run newS ((l.map askP).take 0))) := Lib.hid ⟨hT, bstep HB1.out hB, fun b hb => Nat.le_trans HB1.out.size (hF0 b hb)⟩
  clear hT hB hF0
  go_wp2_with fail
  go_loopw [6] (fun i W => ∃ (k : Nat) (F : Nat → Prop), k ≤ n ∧ i = .int .i64 k ∧ Hid (At w (0 + k) W F tb (run newS ((l.map askP).take k)))) (fun i _ => n - (intOf i).toNat)
  case atStart => exact ⟨0, _, Nat.zero_le _, rfl, HA0⟩
  case round =>
    obtain ⟨k, F, hk, rfl, HA⟩ := hrel
    by_cases hlt : k < n
    · obtain ⟨q, hq⟩ : ∃ q, l[k]? = some q := ⟨_, List.getElem?_eq_getElem (by have := HN.out; omega)⟩
      obtain ⟨ad, had, x0, x1, x2, x3, x4, x5⟩ := op_cells (Kd.C_below HC.out HA.out.below) hq
      have z0 : (0 : Int) ≤ (k : Int) := by omega
      have z1 : (k : Int) < (n : Int) := by omega
      have z2 : (k : Int) < (c : Int) := by omega
      have hsq := (HSM.out).2 (askP q) (List.mem_of_getElem? (by rw [List.getElem?_map, hq]; rfl))
      have HD := Lib.hid (do_q HA.out.ts (by omega) q (by omega) (by omega) (by omega))
      have HQ := Lib.hid hq
      subst had
      clear hq hsq
      go_wp2_with fail
      refine HD.out.mono ?_
      rintro e w1 ⟨F', A', c', rfl, hT, hX, hS, hA'⟩
      have HA1 := Lib.hid (HA.out.step hT hX)
      clear hT hX hS hA' HD x0 x1 x2 x3 x4 x5
      unfold ansV
      go_wp2_with fail
      go_roundw
      case rel => exact ⟨k + 1, F', by omega, by go_num, Lib.hid (by rw [run_take HQ.out]; exact HA1.out)⟩
      case measure => simp [intOf]; omega
    · obtain rfl : k = n := by omega
      have HA1 : Hid (At w (0 + k) wr F tb (run newS (l.map askP))) := by
        have h := HA.out
        rw [List.take_of_length_le (by rw [List.length_map]; have := HN.out; omega)] at h
        exact Lib.hid h
      clear HA
      obtain ⟨g0, hg0⟩ : ∃ g, run newS (l.map askP) = g := ⟨_, rfl⟩
      rw [hg0] at HA1
      clear HA0 hg0
      have HA0 := HA1
      clear HA1
      have HI := Lib.hid HA0.out.ts.fine.good.inv
      have hd6 : dir.length ≤ 600 := by omega
      go_wp2_with fail
      obtain ⟨r1, hr1⟩ : ∃ r, step g0 ⟨10, dir, [], 0, 0, []⟩ = r := ⟨_, rfl⟩
      obtain ⟨g1, a1⟩ := r1
      have HG1 := Lib.hid hr1
      have HD := Lib.hid (do_at HA0.out.ts (by omega) ⟨10, dir, [], 0, 0, []⟩ (by simp; try omega) (by simp; try omega) (by simp; try omega) hr1)
      clear hr1
      refine HD.out.mono ?_
      rintro e v1 ⟨F1, A1, c1, rfl, hT, hX, hS, hA⟩
      obtain ⟨b1, hb1⟩ : ∃ b, v1.heap.size = b := ⟨_, rfl⟩
      obtain ⟨w1, hw1⟩ : ∃ w, v1.alloc (.cells #[.int .i64 a1.code, .int .i64 a1.n, .string (mk a1.data), .slice A1 a1.names.length c1] 32) = w := ⟨_, rfl⟩
      obtain ⟨hT2, hX2, hbx⟩ := boxed (a := a1) hT hX hS hA hw1
      rw [hb1] at hbx
      have HX1 := Lib.hid hX2
      have HA1 := Lib.hid (HA0.out.step hT2 hX2)
      have HBX1 := Lib.hid hbx
      have HW := Lib.hid hw1
      have HBB := Lib.hid hb1
      clear hT hX hT2 hX2 hS hA hbx hw1 hb1 HD
      unfold ansV
      go_wp2_with fail
      rw [HBB.out, HW.out]
      clear HW HBB
      obtain ⟨r2, hr2⟩ : ∃ r, step g1 ⟨9, dir, [], 0, 0, []⟩ = r := ⟨_, rfl⟩
      obtain ⟨g2, a2⟩ := r2
      have HG2 := Lib.hid hr2
      have HD := Lib.hid (do_at HA1.out.ts (by omega) ⟨9, dir, [], 0, 0, []⟩ (by simp; try omega) (by simp; try omega) (by simp; try omega) hr2)
      clear hr2
      refine HD.out.mono ?_
      rintro e v2 ⟨F2, A2, c2, rfl, hT, hX, hS, hA⟩
      obtain ⟨w2, hw2⟩ : ∃ w, v2.alloc (.cells #[.int .i64 a2.code, .int .i64 a2.n, .string (mk a2.data), .slice A2 a2.names.length c2] 32) = w := ⟨_, rfl⟩
      obtain ⟨hT2, hX2, hbx⟩ := boxed (a := a2) hT hX hS hA hw2
      have HA2 := Lib.hid (HA1.out.step hT2 hX2)
      have Z2 := Lib.hid hbx
      have Y1 := HBX1.out.ext (hX)
      have Z1 := Lib.hid (HBX1.out.ext (hX2))
      obtain ⟨y10, y11, y12, y13⟩ := Y1.cells
      have yl1 := some_lt Y1.at_
      have HW := Lib.hid hw2
      clear hT hX hT2 hX2 hS hA hbx hw2 HD Y1 HX1 HBX1
      unfold ansV
      have hP := listed_plain HI.out hd6 HG1.out HG2.out
      obtain ⟨rfl, rfl, hL⟩ := hP
      have HL := Lib.hid hL
      have t2 := mk_list a2.data
      obtain ⟨m, hm⟩ : ∃ m, a1.names.length = m := ⟨_, rfl⟩
      rw [hm] at y13 ⊢
      have HM := Lib.hid hm
      have hm63 : (m : Int) ≤ 9223372036854775807 := by have h := Z1.out.names.small; omega
      by_cases hw : a1.code = 0
      · obtain ⟨g1, g2, g3, g4⟩ := hL.good hw
        have hw0 : (a1.code != 0) = false := by rw [hw]; rfl
        have HE := Lib.hid g4
        have HG := Lib.hid (And.intro g1 (And.intro g2 g3))
        have HWC := Lib.hid hw
        clear hL hw g1 g2 g3 g4 hm
        go_wp2_with fail
        obtain ⟨b2, hb2⟩ : ∃ b, v2.heap.size = b := ⟨_, rfl⟩
        have Z2' := Lib.hid (show Boxed a2 A2 c2 b2 F2 w2 from hb2 ▸ Z2.out)
        rw [HW.out, hb2]
        clear Z2 hb2 y10 y11 y12 y13 yl1
        refine (split_held dir 0 HE.out (by omega) _ (F := F2) HA2.out.ts.tree.2).mono ?_
        rintro e wN ⟨AN, cN, rfl, hN, hNil, hB⟩
        obtain ⟨ini, hini⟩ : ∃ l, namesV dir = l := ⟨_, rfl⟩
        have hsh := HL.out.short
        rw [hini] at hN hsh hNil ⊢
        have HNil := Lib.hid hNil
        have HIN := Lib.hid hini
        have HL1 : Hid (At w (0 + k + 1 + 1) wN F2 tb g2) := Lib.hid (HA2.out.more hB)
        have HL2 := Lib.hid (Z1.out.ext (Ext.of_below hB))
        have HL3 := Lib.hid (Z2'.out.ext (Ext.of_below hB))
        have HL4 := Lib.hid hN
        clear hN hB hini hNil Z1 Z2' HA0 HA1 HA2 HW HB0 HB1
        go_wp2_with fail
        go_loopw [11] (fun i W => ∃ (j : Nat) (F : Nat → Prop), j ≤ m ∧ i = .int .i64 j ∧ Hid (At w (0 + k + 1 + 1) W F tb g2) ∧ Hid (Boxed a1 A1 c1 b1 F W) ∧ Hid (Boxed a2 A2 c2 b2 F W) ∧ Hid (Held ini AN cN F W)) (fun i _ => m - (intOf i).toNat)
        case atStart => exact ⟨0, _, Nat.zero_le _, rfl, HL1, HL2, HL3, HL4⟩
        case round =>
          obtain ⟨j, Fj, hj, rfl, HJ1, HJ2, HJ3, HJ4⟩ := hrel
          have Y1 := HJ2.out.cells
          obtain ⟨y10, y11, y12, y13⟩ := Y1
          rw [HM.out] at y13
          clear y10 y11 y12
          by_cases hlt : j < m
          · obtain ⟨x, hx⟩ : ∃ x, a1.names[j]? = some x := ⟨_, List.getElem?_eq_getElem (by have := HM.out; omega)⟩
            obtain ⟨q1, q2, q3⟩ := HL.out.each HWC.out j x hx
            rw [HIN.out] at q1 q2 q3
            obtain ⟨s, hs⟩ : ∃ s, join (ini ++ [x]) = s := ⟨_, rfl⟩
            rw [hs] at q1 q2 q3
            obtain ⟨rq, hrq⟩ : ∃ r, step g2 ⟨9, s, [], 0, 0, []⟩ = r := ⟨_, rfl⟩
            obtain ⟨gq, aq⟩ := rq
            rw [hrq] at q1 q2
            simp only at q1 q2
            rw [q1] at hrq
            clear q1
            have HRQ := Lib.hid hrq
            have hsz : s.length ≤ 70368744177664 := by omega
            have hil : (ini ++ [x]).length ≤ 140737488355328 := by simp; omega
            have hnm : ∀ W, Strs W (.slice A1 m c1) a1.names → ∃ ad, A1 = some ad ∧ ∀ i y, a1.names[i]? = some y → W.cell? (ad.add i) = some (.string (mk y)) := fun W hW => names_at hW (by rw [HM.out]; omega)
            have hst1 : Strs wr (.slice A1 m c1) a1.names := by have := HJ2.out.names; rw [HM.out] at this; exact this
            obtain ⟨ad, rfl, hcell⟩ := hnm wr hst1
            have HNM := Lib.hid hnm
            have HST := Lib.hid hst1
            have hmc : m ≤ c1 := by have h := HJ2.out.names; rw [HM.out] at h; obtain ⟨_, _, e, hcc, _⟩ := h; injection e with e1 e2 e3; rw [HM.out] at hcc; omega
            have hfd : ∀ (A : Option Addr) (n c : Nat) (w : World), (Instr.field 32 (.agg #[.int .i64 aq.code, .int .i64 aq.n, .string (mk aq.data), .slice A n c]) 0).run Tryz.prog w = .ok (.int .i64 aq.code) w := fun A n c w => by kernel_rfl
            have q2b : (aq.code != 0) = false := by rw [q2]; rfl
            have HX := Lib.hid hx
            have HQS := Lib.hid hs
            clear hrq q2 hx hs hnm hst1 hcell
            by_cases hj0 : j = 0
            · subst hj0
              have z1 : (0 : Int) < (m : Int) := by omega
              have z2 : (0 : Int) < (c1 : Int) := by omega
              have hd0 : decide ((0 : Int) < 0) = false := by decide
              have hd1 : decide ((0 : Int) < ((0 : Nat) : Int)) = false := by decide
              have zx := names_first_at HJ2.out HM.out HX.out
              by_cases hie : ini = []
              · obtain ⟨rfl, rfl⟩ := HNil.out hie
                subst hie
                simp only [List.length_nil]
                go_wp2_with (at_builtin; first | (refine wpList_append_own_none rfl _ _ 30 rfl wr.heap.size 9 i0 1 Tryz.underlying30 hi (.slice none 0 0) 0 [] rfl (World.ownsRow_nil _ _ _ _) rfl ?_) | (refine wpList_append_own _ rfl _ _ 30 rfl wr.heap.size 9 i0 (.string ⟨#[]⟩) 1 16 Tryz.underlying30 hi hz0 hz1 hz2 rfl (by decide) (.slice none 0 0) 0 [] rfl (World.ownsRow_nil _ _ _ _) ⟨wr.heap.size, 0, none⟩ 1 1 [.string (mk x)] rfl rfl (cell_one_new _ _ _) (by simp [Value.oneCell']) (by unfold maxLen; omega) (by omega) (by rw [World.size_alloc]; omega) ?_; intro v3 w3 hown hgrow _; obtain ⟨A3, c3, rfl⟩ := own_slice hown; have HBW := Lib.hid (Below.grown (balloc (Below.refl wr.heap.size wr)) hgrow (by rw [World.size_alloc]; omega) (fun k e => by cases e)); have HNW := Lib.hid (held_new (F := Fj) (ns := [x]) (Strs.of_row (ns := [x]) hown (by simp)) (fun r hr => own_base hown r hr) (fun b hb => HJ1.out.ts.tree.2 b hb)); clear hown hgrow))
                have HLD : Hid (Laid w (0 + k + 1 + 1) tb g2 a1 a2 (some ad) A2 c1 c2 b1 b2 [] ([x]) none A3 0 c3 w3) := Lib.hid ⟨_, HJ1.out.more HBW.out, HJ2.out.ext (Ext.of_below HBW.out), HJ3.out.ext (Ext.of_below HBW.out), HJ4.out.ext (Ext.of_below HBW.out), HNW.out⟩
                have HMK := Lib.hid (fun (W : World) (h : Laid w (0 + k + 1 + 1) tb g2 a1 a2 (some ad) A2 c1 c2 b1 b2 [] ([x]) none A3 0 c3 W) => (show Laid w (0 + k + 1 + 1) tb g2 a1 a2 (some ad) A2 c1 c2 b1 b2 [] ([x]) none A3 0 c3 W ∧ W.cell? ⟨b1, 3, none⟩ = some (.slice (some ad) m c1) ∧ W.cell? ad = some (.string (mk x)) from ⟨h, h.cell HM.out, (by have := h.next HX.out; unfold Addr.add at this; rw [if_pos rfl] at this; exact this)⟩))
                clear y13 zx
                refine wp_region_any (by kernel_rfl) ?_
                try (change wpAny _ _ _ _ _ _ _ (World.drew _))
                refine wpAny_take (i := 0) (v := ?_) rfl (by kernel_rfl) (by kernel_rfl) (by kernel_rfl) (fun _ _ _ h => h) (Or.inl ⟨by kernel_rfl, ?_⟩) ?_
                rotate_left 1
                · intro w
                  go_simp
                  try with_reducible rfl
                try simp only [Act.put, List.getElem_toArray, List.getElem_cons_zero, List.getElem_cons_succ, List.setIfInBounds_toArray, List.set_cons_zero, List.set_cons_succ]
                refine wpAny_take (i := 1) (v := ?_) rfl (by kernel_rfl) (by kernel_rfl) (by kernel_rfl) (fun _ _ _ h => h) (Or.inl ⟨by kernel_rfl, ?_⟩) ?_
                rotate_left 1
                · intro w
                  go_simp
                  try with_reducible rfl
                try simp only [Act.put, List.getElem_toArray, List.getElem_cons_zero, List.getElem_cons_succ, List.setIfInBounds_toArray, List.set_cons_zero, List.set_cons_succ]
                refine wpAny_ready (rs := [2]) (by kernel_rfl) (by simp) ?_
                refine AllReady.cons rfl (fun K hK => ?_) AllReady.nil
                go_simp
                go_wp2_with (first | (go_at_call 18; refine (join_lit _ ([x]) s HQS.out _ (Laid.strs (HLD.out.below ((Below.refl _ _).drew)) rfl) hsz hil).mono ?_; rintro e w5 ⟨rfl, hB5⟩; have HL5 := Lib.hid ((HLD.out.below ((Below.refl _ _).drew)).below hB5); clear hB5) | (go_at_call 13; refine (Laid.stat HL5.out (by omega) q3 HRQ.out).mono ?_; rintro e w6 ⟨A', c', rfl, hP⟩; have HL6 := Lib.hid hP; clear hP))
                try (refine hK _ _ ?_; clear hK K)
                refine wpAny_take (i := 3) (v := ?_) rfl (by kernel_rfl) (by kernel_rfl) (by kernel_rfl) (fun _ _ _ h => h) (Or.inl ⟨by kernel_rfl, ?_⟩) ?_
                rotate_left 1
                · intro w
                  go_simp
                  try with_reducible rfl
                try simp only [Act.put, List.getElem_toArray, List.getElem_cons_zero, List.getElem_cons_succ, List.setIfInBounds_toArray, List.set_cons_zero, List.set_cons_succ]
                refine wpAny_ready (rs := [4]) (by kernel_rfl) (by simp) ?_
                refine AllReady.cons rfl (fun K hK => ?_) AllReady.nil
                go_simp
                go_wp2_with (first | (go_at_call 18; refine (join_lit _ ([x]) s HQS.out _ (Laid.strs (HLD.out.below ((Below.refl _ _).drew)) rfl) hsz hil).mono ?_; rintro e w5 ⟨rfl, hB5⟩; have HL5 := Lib.hid ((HLD.out.below ((Below.refl _ _).drew)).below hB5); clear hB5) | (go_at_call 13; refine (Laid.stat HL5.out (by omega) q3 HRQ.out).mono ?_; rintro e w6 ⟨A', c', rfl, hP⟩; have HL6 := Lib.hid hP; clear hP))
                try (refine hK _ _ ?_; clear hK K)
                refine wpAny_take (i := 5) (v := ?_) rfl (by kernel_rfl) (by kernel_rfl) (by kernel_rfl) (fun _ _ _ h => h) (Or.inl ⟨by kernel_rfl, ?_⟩) ?_
                rotate_left 1
                · intro w
                  go_simp
                  try with_reducible rfl
                try simp only [Act.put, List.getElem_toArray, List.getElem_cons_zero, List.getElem_cons_succ, List.setIfInBounds_toArray, List.set_cons_zero, List.set_cons_succ]
                refine wpAny_take (i := 6) (v := ?_) rfl (by kernel_rfl) (by kernel_rfl) (by kernel_rfl) (fun _ _ _ h => h) (Or.inl ⟨by kernel_rfl, ?_⟩) ?_
                rotate_left 1
                · intro w
                  go_simp
                  try with_reducible rfl
                try simp only [Act.put, List.getElem_toArray, List.getElem_cons_zero, List.getElem_cons_succ, List.setIfInBounds_toArray, List.set_cons_zero, List.set_cons_succ]
                refine wpAny_take (i := 7) (v := ?_) rfl (by kernel_rfl) (by kernel_rfl) (by kernel_rfl) (fun _ _ _ h => h) (Or.inl ⟨by kernel_rfl, ?_⟩) ?_
                rotate_left 1
                · intro w
                  go_simp
                  try with_reducible rfl
                try simp only [Act.put, List.getElem_toArray, List.getElem_cons_zero, List.getElem_cons_succ, List.setIfInBounds_toArray, List.set_cons_zero, List.set_cons_succ]
                refine wpAny_take (i := 8) (v := ?_) rfl (by kernel_rfl) (by kernel_rfl) (by kernel_rfl) (fun _ _ _ h => h) (Or.inl ⟨by kernel_rfl, ?_⟩) ?_
                rotate_left 1
                · intro w
                  go_simp
                  try with_reducible rfl
                try simp only [Act.put, List.getElem_toArray, List.getElem_cons_zero, List.getElem_cons_succ, List.setIfInBounds_toArray, List.set_cons_zero, List.set_cons_succ]
                refine wpAny_take (i := 9) (v := ?_) rfl (by kernel_rfl) (by kernel_rfl) (by kernel_rfl) (fun _ _ _ h => h) (Or.inl ⟨by kernel_rfl, ?_⟩) ?_
                rotate_left 1
                · intro w
                  go_simp
                  try with_reducible rfl
                try simp only [Act.put, List.getElem_toArray, List.getElem_cons_zero, List.getElem_cons_succ, List.setIfInBounds_toArray, List.set_cons_zero, List.set_cons_succ]
                refine wpAny_take (i := 10) (v := ?_) rfl (by kernel_rfl) (by kernel_rfl) (by kernel_rfl) (fun _ _ _ h => h) (Or.inl ⟨by kernel_rfl, ?_⟩) ?_
                rotate_left 1
                · intro w
                  go_simp
                  try with_reducible rfl
                try simp only [Act.put, List.getElem_toArray, List.getElem_cons_zero, List.getElem_cons_succ, List.setIfInBounds_toArray, List.set_cons_zero, List.set_cons_succ]
                refine wpAny_take (i := 11) (v := undef) rfl (by kernel_rfl) (by kernel_rfl) (by kernel_rfl) (fun _ _ _ h => h) (Or.inr ⟨by kernel_rfl, rfl⟩) ?_
                try simp only [Act.put, List.getElem_toArray, List.getElem_cons_zero, List.getElem_cons_succ, List.setIfInBounds_toArray, List.set_cons_zero, List.set_cons_succ]
                refine wpAny_take (i := 12) (v := undef) rfl (by kernel_rfl) (by kernel_rfl) (by kernel_rfl) (fun _ _ _ h => h) (Or.inr ⟨by kernel_rfl, rfl⟩) ?_
                try simp only [Act.put, List.getElem_toArray, List.getElem_cons_zero, List.getElem_cons_succ, List.setIfInBounds_toArray, List.set_cons_zero, List.set_cons_succ]
                refine wpAny_take (i := 13) (v := undef) rfl (by kernel_rfl) (by kernel_rfl) (by kernel_rfl) (fun _ _ _ h => h) (Or.inr ⟨by kernel_rfl, rfl⟩) ?_
                try simp only [Act.put, List.getElem_toArray, List.getElem_cons_zero, List.getElem_cons_succ, List.setIfInBounds_toArray, List.set_cons_zero, List.set_cons_succ]
                refine wpAny_take (i := 14) (v := undef) rfl (by kernel_rfl) (by kernel_rfl) (by kernel_rfl) (fun _ _ _ h => h) (Or.inr ⟨by kernel_rfl, rfl⟩) ?_
                try simp only [Act.put, List.getElem_toArray, List.getElem_cons_zero, List.getElem_cons_succ, List.setIfInBounds_toArray, List.set_cons_zero, List.set_cons_succ]
                refine wpAny_take (i := 15) (v := undef) rfl (by kernel_rfl) (by kernel_rfl) (by kernel_rfl) (fun _ _ _ h => h) (Or.inr ⟨by kernel_rfl, rfl⟩) ?_
                try simp only [Act.put, List.getElem_toArray, List.getElem_cons_zero, List.getElem_cons_succ, List.setIfInBounds_toArray, List.set_cons_zero, List.set_cons_succ]
                refine wpAny_take (i := 16) (v := undef) rfl (by kernel_rfl) (by kernel_rfl) (by kernel_rfl) (fun _ _ _ h => h) (Or.inr ⟨by kernel_rfl, rfl⟩) ?_
                try simp only [Act.put, List.getElem_toArray, List.getElem_cons_zero, List.getElem_cons_succ, List.setIfInBounds_toArray, List.set_cons_zero, List.set_cons_succ]
                refine wpAny_take (i := 17) (v := undef) rfl (by kernel_rfl) (by kernel_rfl) (by kernel_rfl) (fun _ _ _ h => h) (Or.inr ⟨by kernel_rfl, rfl⟩) ?_
                try simp only [Act.put, List.getElem_toArray, List.getElem_cons_zero, List.getElem_cons_succ, List.setIfInBounds_toArray, List.set_cons_zero, List.set_cons_succ]
                refine wpAny_take (i := 18) (v := undef) rfl (by kernel_rfl) (by kernel_rfl) (by kernel_rfl) (fun _ _ _ h => h) (Or.inr ⟨by kernel_rfl, rfl⟩) ?_
                try simp only [Act.put, List.getElem_toArray, List.getElem_cons_zero, List.getElem_cons_succ, List.setIfInBounds_toArray, List.set_cons_zero, List.set_cons_succ]
                refine wpAny_take (i := 19) (v := undef) rfl (by kernel_rfl) (by kernel_rfl) (by kernel_rfl) (fun _ _ _ h => h) (Or.inr ⟨by kernel_rfl, rfl⟩) ?_
                try simp only [Act.put, List.getElem_toArray, List.getElem_cons_zero, List.getElem_cons_succ, List.setIfInBounds_toArray, List.set_cons_zero, List.set_cons_succ]
                refine wpAny_take (i := 20) (v := undef) rfl (by kernel_rfl) (by kernel_rfl) (by kernel_rfl) (fun _ _ _ h => h) (Or.inr ⟨by kernel_rfl, rfl⟩) ?_
                try simp only [Act.put, List.getElem_toArray, List.getElem_cons_zero, List.getElem_cons_succ, List.setIfInBounds_toArray, List.set_cons_zero, List.set_cons_succ]
                refine wpAny_take (i := 21) (v := undef) rfl (by kernel_rfl) (by kernel_rfl) (by kernel_rfl) (fun _ _ _ h => h) (Or.inr ⟨by kernel_rfl, rfl⟩) ?_
                try simp only [Act.put, List.getElem_toArray, List.getElem_cons_zero, List.getElem_cons_succ, List.setIfInBounds_toArray, List.set_cons_zero, List.set_cons_succ]
                refine wpAny_take (i := 22) (v := undef) rfl (by kernel_rfl) (by kernel_rfl) (by kernel_rfl) (fun _ _ _ h => h) (Or.inr ⟨by kernel_rfl, rfl⟩) ?_
                try simp only [Act.put, List.getElem_toArray, List.getElem_cons_zero, List.getElem_cons_succ, List.setIfInBounds_toArray, List.set_cons_zero, List.set_cons_succ]
                refine wpAny_take (i := 23) (v := ?_) rfl (by kernel_rfl) (by kernel_rfl) (by kernel_rfl) (fun _ _ _ h => h) (Or.inl ⟨by kernel_rfl, ?_⟩) ?_
                rotate_left 1
                · intro w
                  go_simp
                  try with_reducible rfl
                try simp only [Act.put, List.getElem_toArray, List.getElem_cons_zero, List.getElem_cons_succ, List.setIfInBounds_toArray, List.set_cons_zero, List.set_cons_succ]
                refine wpAny_take (i := 24) (v := ?_) rfl (by kernel_rfl) (by kernel_rfl) (by kernel_rfl) (fun _ _ _ h => h) (Or.inl ⟨by kernel_rfl, ?_⟩) ?_
                rotate_left 1
                · intro w
                  go_simp
                  try with_reducible rfl
                try simp only [Act.put, List.getElem_toArray, List.getElem_cons_zero, List.getElem_cons_succ, List.setIfInBounds_toArray, List.set_cons_zero, List.set_cons_succ]
                refine wpAny_done (by kernel_rfl) ?_ _
                have hHeld := And.intro HL6.out True.intro
                obtain ⟨⟨F', hP1, hP2, hP3, hP4, hP5⟩, _⟩ := hHeld
                have HP1 := Lib.hid hP1
                have HP2 := Lib.hid hP2
                have HP3 := Lib.hid hP3
                have HP4 := Lib.hid hP4
                clear hP1 hP2 hP3 hP4 hP5
                go_wp2_with fail
                go_roundw
                case rel => exact ⟨1, F', by omega, by go_num, HP1, HP2, HP3, HP4⟩
                case measure => simp [intOf]; omega
              · obtain ⟨bk, o, c3, e3, hcc, hlt3, hcell⟩ := HJ4.out.names.cells hie
                simp only [Value.slice.injEq] at e3
                obtain ⟨rfl, _, rfl⟩ := e3
                have HN3 := Lib.hid (svals_at hcell)
                have hcn : ini.length ≤ cN := hcc
                obtain ⟨B0, hB0⟩ : ∃ B0, wr.heap.size = B0 := ⟨_, rfl⟩
                clear hcell hcc
                go_wp2_with (at_builtin; first | (refine wpList_append_own _ rfl _ _ 30 rfl B0 9 i0 (.string ⟨#[]⟩) 1 16 Tryz.underlying30 hi hz0 hz1 hz2 rfl (by decide) (.slice none 0 0) 0 [] rfl (World.ownsRow_nil _ _ _ _) ⟨bk, o, none⟩ ini.length cN (svals ini) rfl (by rw [svals_length, Nat.mul_one]) HN3.out (by unfold svals; simp [Value.oneCell']) (by unfold maxLen; omega) (by omega) (by omega) ?_; intro v3 w3 hown3 hgrow3 _; rw [Nat.zero_add, List.nil_append] at hown3; obtain ⟨A3, c3, rfl⟩ := own_slice hown3; have HB3 := Lib.hid (Below.grown (Below.refl wr.heap.size wr) hgrow3 (by omega) (fun k e => by cases e)); have hsz3 : B0 ≤ w3.heap.size := (by have := hgrow3.size; omega); have HO3 := Lib.hid hown3; have y13 := pw_cell_below HB3.out y13; have zx := pw_cell_below HB3.out zx; clear hown3 hgrow3) | (refine wpList_append_own _ rfl _ _ 30 rfl B0 9 i0 (.string ⟨#[]⟩) 1 16 Tryz.underlying30 hi hz0 hz1 hz2 rfl (by decide) _ ini.length (svals ini) rfl (HO3.out.alloc _) ⟨w3.heap.size, 0, none⟩ 1 1 [.string (mk x)] rfl rfl (cell_one_new _ _ _) (by simp [Value.oneCell']) (by unfold maxLen; omega) (by omega) (by rw [World.size_alloc]; omega) ?_; intro v4 w4 hown4 hgrow4 _; obtain ⟨A4, c4, rfl⟩ := own_slice hown4; have HBW := Lib.hid (Below.grown (balloc HB3.out) hgrow4 (by have := HB3.out.size; rw [World.size_alloc]; omega) (fun k e => by have := own_base HO3.out k e; omega)); have HNW := Lib.hid (held_new (F := Fj) (base := B0) (A := A4) (c := c4) (ns := ini ++ [x]) (by have := Strs.of_row (ns := ini ++ [x]) (by rw [svals_snoc]; simpa using hown4) (by simp; omega); simpa using this) (fun r hr => own_base hown4 r (by simpa using hr)) (fun b hb => by have := HJ1.out.ts.tree.2 b hb; omega)); clear hown4 hgrow4))
                have HLD : Hid (Laid w (0 + k + 1 + 1) tb g2 a1 a2 (some ad) A2 c1 c2 b1 b2 ini (ini ++ [x]) (some ⟨bk, o, none⟩) A4 cN c4 w4) := Lib.hid ⟨_, HJ1.out.more HBW.out, HJ2.out.ext (Ext.of_below HBW.out), HJ3.out.ext (Ext.of_below HBW.out), HJ4.out.ext (Ext.of_below HBW.out), HNW.out⟩
                have HMK := Lib.hid (fun (W : World) (h : Laid w (0 + k + 1 + 1) tb g2 a1 a2 (some ad) A2 c1 c2 b1 b2 ini (ini ++ [x]) (some ⟨bk, o, none⟩) A4 cN c4 W) => (show Laid w (0 + k + 1 + 1) tb g2 a1 a2 (some ad) A2 c1 c2 b1 b2 ini (ini ++ [x]) (some ⟨bk, o, none⟩) A4 cN c4 W ∧ W.cell? ⟨b1, 3, none⟩ = some (.slice (some ad) m c1) ∧ W.cell? ad = some (.string (mk x)) from ⟨h, h.cell HM.out, (by have := h.next HX.out; unfold Addr.add at this; rw [if_pos rfl] at this; exact this)⟩))
                clear y13 zx
                refine wp_region_any (by kernel_rfl) ?_
                try (change wpAny _ _ _ _ _ _ _ (World.drew _))
                refine wpAny_take (i := 0) (v := ?_) rfl (by kernel_rfl) (by kernel_rfl) (by kernel_rfl) (fun _ _ _ h => h) (Or.inl ⟨by kernel_rfl, ?_⟩) ?_
                rotate_left 1
                · intro w
                  go_simp
                  try with_reducible rfl
                try simp only [Act.put, List.getElem_toArray, List.getElem_cons_zero, List.getElem_cons_succ, List.setIfInBounds_toArray, List.set_cons_zero, List.set_cons_succ]
                refine wpAny_take (i := 1) (v := ?_) rfl (by kernel_rfl) (by kernel_rfl) (by kernel_rfl) (fun _ _ _ h => h) (Or.inl ⟨by kernel_rfl, ?_⟩) ?_
                rotate_left 1
                · intro w
                  go_simp
                  try with_reducible rfl
                try simp only [Act.put, List.getElem_toArray, List.getElem_cons_zero, List.getElem_cons_succ, List.setIfInBounds_toArray, List.set_cons_zero, List.set_cons_succ]
                refine wpAny_ready (rs := [2]) (by kernel_rfl) (by simp) ?_
                refine AllReady.cons rfl (fun K hK => ?_) AllReady.nil
                go_simp
                go_wp2_with (first | (go_at_call 18; refine (join_lit _ (ini ++ [x]) s HQS.out _ (Laid.strs (HLD.out.below ((Below.refl _ _).drew)) (by simp)) hsz hil).mono ?_; rintro e w5 ⟨rfl, hB5⟩; have HL5 := Lib.hid ((HLD.out.below ((Below.refl _ _).drew)).below hB5); clear hB5) | (go_at_call 13; refine (Laid.stat HL5.out (by omega) q3 HRQ.out).mono ?_; rintro e w6 ⟨A', c', rfl, hP⟩; have HL6 := Lib.hid hP; clear hP))
                try (refine hK _ _ ?_; clear hK K)
                refine wpAny_take (i := 3) (v := ?_) rfl (by kernel_rfl) (by kernel_rfl) (by kernel_rfl) (fun _ _ _ h => h) (Or.inl ⟨by kernel_rfl, ?_⟩) ?_
                rotate_left 1
                · intro w
                  go_simp
                  try with_reducible rfl
                try simp only [Act.put, List.getElem_toArray, List.getElem_cons_zero, List.getElem_cons_succ, List.setIfInBounds_toArray, List.set_cons_zero, List.set_cons_succ]
                refine wpAny_ready (rs := [4]) (by kernel_rfl) (by simp) ?_
                refine AllReady.cons rfl (fun K hK => ?_) AllReady.nil
                go_simp
                go_wp2_with (first | (go_at_call 18; refine (join_lit _ (ini ++ [x]) s HQS.out _ (Laid.strs (HLD.out.below ((Below.refl _ _).drew)) (by simp)) hsz hil).mono ?_; rintro e w5 ⟨rfl, hB5⟩; have HL5 := Lib.hid ((HLD.out.below ((Below.refl _ _).drew)).below hB5); clear hB5) | (go_at_call 13; refine (Laid.stat HL5.out (by omega) q3 HRQ.out).mono ?_; rintro e w6 ⟨A', c', rfl, hP⟩; have HL6 := Lib.hid hP; clear hP))
                try (refine hK _ _ ?_; clear hK K)
                refine wpAny_take (i := 5) (v := ?_) rfl (by kernel_rfl) (by kernel_rfl) (by kernel_rfl) (fun _ _ _ h => h) (Or.inl ⟨by kernel_rfl, ?_⟩) ?_
                rotate_left 1
                · intro w
                  go_simp
                  try with_reducible rfl
                try simp only [Act.put, List.getElem_toArray, List.getElem_cons_zero, List.getElem_cons_succ, List.setIfInBounds_toArray, List.set_cons_zero, List.set_cons_succ]
                refine wpAny_take (i := 6) (v := ?_) rfl (by kernel_rfl) (by kernel_rfl) (by kernel_rfl) (fun _ _ _ h => h) (Or.inl ⟨by kernel_rfl, ?_⟩) ?_
                rotate_left 1
                · intro w
                  go_simp
                  try with_reducible rfl
                try simp only [Act.put, List.getElem_toArray, List.getElem_cons_zero, List.getElem_cons_succ, List.setIfInBounds_toArray, List.set_cons_zero, List.set_cons_succ]
                refine wpAny_take (i := 7) (v := ?_) rfl (by kernel_rfl) (by kernel_rfl) (by kernel_rfl) (fun _ _ _ h => h) (Or.inl ⟨by kernel_rfl, ?_⟩) ?_
                rotate_left 1
                · intro w
                  go_simp
                  try with_reducible rfl
                try simp only [Act.put, List.getElem_toArray, List.getElem_cons_zero, List.getElem_cons_succ, List.setIfInBounds_toArray, List.set_cons_zero, List.set_cons_succ]
                refine wpAny_take (i := 8) (v := ?_) rfl (by kernel_rfl) (by kernel_rfl) (by kernel_rfl) (fun _ _ _ h => h) (Or.inl ⟨by kernel_rfl, ?_⟩) ?_
                rotate_left 1
                · intro w
                  go_simp
                  try with_reducible rfl
                try simp only [Act.put, List.getElem_toArray, List.getElem_cons_zero, List.getElem_cons_succ, List.setIfInBounds_toArray, List.set_cons_zero, List.set_cons_succ]
                refine wpAny_take (i := 9) (v := ?_) rfl (by kernel_rfl) (by kernel_rfl) (by kernel_rfl) (fun _ _ _ h => h) (Or.inl ⟨by kernel_rfl, ?_⟩) ?_
                rotate_left 1
                · intro w
                  go_simp
                  try with_reducible rfl
                try simp only [Act.put, List.getElem_toArray, List.getElem_cons_zero, List.getElem_cons_succ, List.setIfInBounds_toArray, List.set_cons_zero, List.set_cons_succ]
                refine wpAny_take (i := 10) (v := ?_) rfl (by kernel_rfl) (by kernel_rfl) (by kernel_rfl) (fun _ _ _ h => h) (Or.inl ⟨by kernel_rfl, ?_⟩) ?_
                rotate_left 1
                · intro w
                  go_simp
                  try with_reducible rfl
                try simp only [Act.put, List.getElem_toArray, List.getElem_cons_zero, List.getElem_cons_succ, List.setIfInBounds_toArray, List.set_cons_zero, List.set_cons_succ]
                refine wpAny_take (i := 11) (v := undef) rfl (by kernel_rfl) (by kernel_rfl) (by kernel_rfl) (fun _ _ _ h => h) (Or.inr ⟨by kernel_rfl, rfl⟩) ?_
                try simp only [Act.put, List.getElem_toArray, List.getElem_cons_zero, List.getElem_cons_succ, List.setIfInBounds_toArray, List.set_cons_zero, List.set_cons_succ]
                refine wpAny_take (i := 12) (v := undef) rfl (by kernel_rfl) (by kernel_rfl) (by kernel_rfl) (fun _ _ _ h => h) (Or.inr ⟨by kernel_rfl, rfl⟩) ?_
                try simp only [Act.put, List.getElem_toArray, List.getElem_cons_zero, List.getElem_cons_succ, List.setIfInBounds_toArray, List.set_cons_zero, List.set_cons_succ]
                refine wpAny_take (i := 13) (v := undef) rfl (by kernel_rfl) (by kernel_rfl) (by kernel_rfl) (fun _ _ _ h => h) (Or.inr ⟨by kernel_rfl, rfl⟩) ?_
                try simp only [Act.put, List.getElem_toArray, List.getElem_cons_zero, List.getElem_cons_succ, List.setIfInBounds_toArray, List.set_cons_zero, List.set_cons_succ]
                refine wpAny_take (i := 14) (v := undef) rfl (by kernel_rfl) (by kernel_rfl) (by kernel_rfl) (fun _ _ _ h => h) (Or.inr ⟨by kernel_rfl, rfl⟩) ?_
                try simp only [Act.put, List.getElem_toArray, List.getElem_cons_zero, List.getElem_cons_succ, List.setIfInBounds_toArray, List.set_cons_zero, List.set_cons_succ]
                refine wpAny_take (i := 15) (v := undef) rfl (by kernel_rfl) (by kernel_rfl) (by kernel_rfl) (fun _ _ _ h => h) (Or.inr ⟨by kernel_rfl, rfl⟩) ?_
                try simp only [Act.put, List.getElem_toArray, List.getElem_cons_zero, List.getElem_cons_succ, List.setIfInBounds_toArray, List.set_cons_zero, List.set_cons_succ]
                refine wpAny_take (i := 16) (v := undef) rfl (by kernel_rfl) (by kernel_rfl) (by kernel_rfl) (fun _ _ _ h => h) (Or.inr ⟨by kernel_rfl, rfl⟩) ?_
                try simp only [Act.put, List.getElem_toArray, List.getElem_cons_zero, List.getElem_cons_succ, List.setIfInBounds_toArray, List.set_cons_zero, List.set_cons_succ]
                refine wpAny_take (i := 17) (v := undef) rfl (by kernel_rfl) (by kernel_rfl) (by kernel_rfl) (fun _ _ _ h => h) (Or.inr ⟨by kernel_rfl, rfl⟩) ?_
                try simp only [Act.put, List.getElem_toArray, List.getElem_cons_zero, List.getElem_cons_succ, List.setIfInBounds_toArray, List.set_cons_zero, List.set_cons_succ]
                refine wpAny_take (i := 18) (v := undef) rfl (by kernel_rfl) (by kernel_rfl) (by kernel_rfl) (fun _ _ _ h => h) (Or.inr ⟨by kernel_rfl, rfl⟩) ?_
                try simp only [Act.put, List.getElem_toArray, List.getElem_cons_zero, List.getElem_cons_succ, List.setIfInBounds_toArray, List.set_cons_zero, List.set_cons_succ]
                refine wpAny_take (i := 19) (v := undef) rfl (by kernel_rfl) (by kernel_rfl) (by kernel_rfl) (fun _ _ _ h => h) (Or.inr ⟨by kernel_rfl, rfl⟩) ?_
                try simp only [Act.put, List.getElem_toArray, List.getElem_cons_zero, List.getElem_cons_succ, List.setIfInBounds_toArray, List.set_cons_zero, List.set_cons_succ]
                refine wpAny_take (i := 20) (v := undef) rfl (by kernel_rfl) (by kernel_rfl) (by kernel_rfl) (fun _ _ _ h => h) (Or.inr ⟨by kernel_rfl, rfl⟩) ?_
                try simp only [Act.put, List.getElem_toArray, List.getElem_cons_zero, List.getElem_cons_succ, List.setIfInBounds_toArray, List.set_cons_zero, List.set_cons_succ]
                refine wpAny_take (i := 21) (v := undef) rfl (by kernel_rfl) (by kernel_rfl) (by kernel_rfl) (fun _ _ _ h => h) (Or.inr ⟨by kernel_rfl, rfl⟩) ?_
                try simp only [Act.put, List.getElem_toArray, List.getElem_cons_zero, List.getElem_cons_succ, List.setIfInBounds_toArray, List.set_cons_zero, List.set_cons_succ]
                refine wpAny_take (i := 22) (v := undef) rfl (by kernel_rfl) (by kernel_rfl) (by kernel_rfl) (fun _ _ _ h => h) (Or.inr ⟨by kernel_rfl, rfl⟩) ?_
                try simp only [Act.put, List.getElem_toArray, List.getElem_cons_zero, List.getElem_cons_succ, List.setIfInBounds_toArray, List.set_cons_zero, List.set_cons_succ]
                refine wpAny_take (i := 23) (v := ?_) rfl (by kernel_rfl) (by kernel_rfl) (by kernel_rfl) (fun _ _ _ h => h) (Or.inl ⟨by kernel_rfl, ?_⟩) ?_
                rotate_left 1
                · intro w
                  go_simp
                  try with_reducible rfl
                try simp only [Act.put, List.getElem_toArray, List.getElem_cons_zero, List.getElem_cons_succ, List.setIfInBounds_toArray, List.set_cons_zero, List.set_cons_succ]
                refine wpAny_take (i := 24) (v := ?_) rfl (by kernel_rfl) (by kernel_rfl) (by kernel_rfl) (fun _ _ _ h => h) (Or.inl ⟨by kernel_rfl, ?_⟩) ?_
                rotate_left 1
                · intro w
                  go_simp
                  try with_reducible rfl
                try simp only [Act.put, List.getElem_toArray, List.getElem_cons_zero, List.getElem_cons_succ, List.setIfInBounds_toArray, List.set_cons_zero, List.set_cons_succ]
                refine wpAny_done (by kernel_rfl) ?_ _
                have hHeld := And.intro HL6.out True.intro
                obtain ⟨⟨F', hP1, hP2, hP3, hP4, hP5⟩, _⟩ := hHeld
                have HP1 := Lib.hid hP1
                have HP2 := Lib.hid hP2
                have HP3 := Lib.hid hP3
                have HP4 := Lib.hid hP4
                clear hP1 hP2 hP3 hP4 hP5
                go_wp2_with fail
                go_roundw
                case rel => exact ⟨1, F', by omega, by go_num, HP1, HP2, HP3, HP4⟩
                case measure => simp [intOf]; omega
            · obtain ⟨jp, hjp⟩ : ∃ jp, j = jp + 1 := ⟨j - 1, by omega⟩
              obtain ⟨y, hy⟩ : ∃ y, a1.names[jp]? = some y := ⟨_, List.getElem?_eq_getElem (by have := HM.out; omega)⟩
              have hyx : y < x := HL.out.inc HWC.out jp y x hy (by rw [← hjp]; exact HX.out)
              have zy := names_next HJ2.out HM.out hy
              have HY := Lib.hid hy
              have tx := mk_list x
              have ty := mk_list y
              have z0 : (0 : Int) < (j : Int) := by omega
              have z0' : (0 : Int) ≤ (j : Int) := by omega
              have z1 : (j : Int) < (m : Int) := by omega
              have z2 : (j : Int) < (c1 : Int) := by omega
              have zi : (j : Int) - 1 = (jp : Int) := by omega
              have z3 : (0 : Int) ≤ (jp : Int) := by omega
              have z4 : (jp : Int) < (m : Int) := by omega
              have z5 : (jp : Int) < (c1 : Int) := by omega
              have hjn : 0 < j := by omega
              have zw : IntKind.i64.wrap (jp : Int) = (jp : Int) := Go.IntWalk.i64_in _ (by have h1 := HJ2.out.names.small; have h2 := HM.out; omega)
              have zx := names_next HJ2.out HM.out HX.out
              have hge := fun w => geq_false (P := Tryz.prog) hyx 9 w
              clear hy hjp hj0 hyx
              by_cases hie : ini = []
              · obtain ⟨rfl, rfl⟩ := HNil.out hie
                subst hie
                simp only [List.length_nil]
                go_wp2_with (at_builtin; first | (refine wpList_append_own_none rfl _ _ 30 rfl wr.heap.size 9 i0 1 Tryz.underlying30 hi (.slice none 0 0) 0 [] rfl (World.ownsRow_nil _ _ _ _) rfl ?_) | (refine wpList_append_own _ rfl _ _ 30 rfl wr.heap.size 9 i0 (.string ⟨#[]⟩) 1 16 Tryz.underlying30 hi hz0 hz1 hz2 rfl (by decide) (.slice none 0 0) 0 [] rfl (World.ownsRow_nil _ _ _ _) ⟨wr.heap.size, 0, none⟩ 1 1 [.string (mk x)] rfl rfl (cell_one_new _ _ _) (by simp [Value.oneCell']) (by unfold maxLen; omega) (by omega) (by rw [World.size_alloc]; omega) ?_; intro v3 w3 hown hgrow _; obtain ⟨A3, c3, rfl⟩ := own_slice hown; have HBW := Lib.hid (Below.grown (balloc (Below.refl wr.heap.size wr)) hgrow (by rw [World.size_alloc]; omega) (fun k e => by cases e)); have HNW := Lib.hid (held_new (F := Fj) (ns := [x]) (Strs.of_row (ns := [x]) hown (by simp)) (fun r hr => own_base hown r hr) (fun b hb => HJ1.out.ts.tree.2 b hb)); clear hown hgrow))
                have HLD : Hid (Laid w (0 + k + 1 + 1) tb g2 a1 a2 (some ad) A2 c1 c2 b1 b2 [] ([x]) none A3 0 c3 w3) := Lib.hid ⟨_, HJ1.out.more HBW.out, HJ2.out.ext (Ext.of_below HBW.out), HJ3.out.ext (Ext.of_below HBW.out), HJ4.out.ext (Ext.of_below HBW.out), HNW.out⟩
                have HMK := Lib.hid (fun (W : World) (h : Laid w (0 + k + 1 + 1) tb g2 a1 a2 (some ad) A2 c1 c2 b1 b2 [] ([x]) none A3 0 c3 W) => (show Laid w (0 + k + 1 + 1) tb g2 a1 a2 (some ad) A2 c1 c2 b1 b2 [] ([x]) none A3 0 c3 W ∧ W.cell? ⟨b1, 3, none⟩ = some (.slice (some ad) m c1) ∧ W.cell? (ad.add j) = some (.string (mk x)) ∧ W.cell? (ad.add jp) = some (.string (mk y)) from ⟨h, h.cell HM.out, h.next HX.out, h.next HY.out⟩))
                clear y13 zx
                clear zy
                refine wp_region_any (by kernel_rfl) ?_
                try (change wpAny _ _ _ _ _ _ _ (World.drew _))
                refine wpAny_take (i := 0) (v := ?_) rfl (by kernel_rfl) (by kernel_rfl) (by kernel_rfl) (fun _ _ _ h => h) (Or.inl ⟨by kernel_rfl, ?_⟩) ?_
                rotate_left 1
                · intro w
                  go_simp
                  try with_reducible rfl
                try simp only [Act.put, List.getElem_toArray, List.getElem_cons_zero, List.getElem_cons_succ, List.setIfInBounds_toArray, List.set_cons_zero, List.set_cons_succ, hd0]
                refine wpAny_take (i := 1) (v := ?_) rfl (by kernel_rfl) (by kernel_rfl) (by kernel_rfl) (fun _ _ _ h => h) (Or.inl ⟨by kernel_rfl, ?_⟩) ?_
                rotate_left 1
                · intro w
                  go_simp
                  try with_reducible rfl
                try simp only [Act.put, List.getElem_toArray, List.getElem_cons_zero, List.getElem_cons_succ, List.setIfInBounds_toArray, List.set_cons_zero, List.set_cons_succ, hd0]
                refine wpAny_ready (rs := [2]) (by kernel_rfl) (by simp) ?_
                refine AllReady.cons rfl (fun K hK => ?_) AllReady.nil
                go_simp
                go_wp2_with (first | (go_at_call 18; refine (join_lit _ ([x]) s HQS.out _ (Laid.strs (HLD.out.below ((Below.refl _ _).drew)) rfl) hsz hil).mono ?_; rintro e w5 ⟨rfl, hB5⟩; have HL5 := Lib.hid ((HLD.out.below ((Below.refl _ _).drew)).below hB5); clear hB5) | (go_at_call 13; refine (Laid.stat HL5.out (by omega) q3 HRQ.out).mono ?_; rintro e w6 ⟨A', c', rfl, hP⟩; have HL6 := Lib.hid hP; clear hP))
                try (refine hK _ _ ?_; clear hK K)
                refine wpAny_take (i := 3) (v := ?_) rfl (by kernel_rfl) (by kernel_rfl) (by kernel_rfl) (fun _ _ _ h => h) (Or.inl ⟨by kernel_rfl, ?_⟩) ?_
                rotate_left 1
                · intro w
                  go_simp
                  try with_reducible rfl
                try simp only [Act.put, List.getElem_toArray, List.getElem_cons_zero, List.getElem_cons_succ, List.setIfInBounds_toArray, List.set_cons_zero, List.set_cons_succ, hd0]
                refine wpAny_ready (rs := [4]) (by kernel_rfl) (by simp) ?_
                refine AllReady.cons rfl (fun K hK => ?_) AllReady.nil
                go_simp
                go_wp2_with (first | (go_at_call 18; refine (join_lit _ ([x]) s HQS.out _ (Laid.strs (HLD.out.below ((Below.refl _ _).drew)) rfl) hsz hil).mono ?_; rintro e w5 ⟨rfl, hB5⟩; have HL5 := Lib.hid ((HLD.out.below ((Below.refl _ _).drew)).below hB5); clear hB5) | (go_at_call 13; refine (Laid.stat HL5.out (by omega) q3 HRQ.out).mono ?_; rintro e w6 ⟨A', c', rfl, hP⟩; have HL6 := Lib.hid hP; clear hP))
                try (refine hK _ _ ?_; clear hK K)
                have y13 := HL6.out.cell HM.out
                have zx := HL6.out.next HX.out
                have zy := HL6.out.next HY.out
                refine wpAny_take (i := 5) (v := ?_) rfl (by kernel_rfl) (by kernel_rfl) (by kernel_rfl) (fun _ _ _ h => h) (Or.inl ⟨by kernel_rfl, ?_⟩) ?_
                rotate_left 1
                · intro w
                  go_simp
                  try with_reducible rfl
                try simp only [Act.put, List.getElem_toArray, List.getElem_cons_zero, List.getElem_cons_succ, List.setIfInBounds_toArray, List.set_cons_zero, List.set_cons_succ, hd0]
                refine wpAny_take (i := 6) (v := ?_) rfl (by kernel_rfl) (by kernel_rfl) (by kernel_rfl) (fun _ _ _ h => h) (Or.inl ⟨by kernel_rfl, ?_⟩) ?_
                rotate_left 1
                · intro w
                  go_simp
                  try with_reducible rfl
                try simp only [Act.put, List.getElem_toArray, List.getElem_cons_zero, List.getElem_cons_succ, List.setIfInBounds_toArray, List.set_cons_zero, List.set_cons_succ, hd0]
                refine wpAny_take (i := 7) (v := ?_) rfl (by kernel_rfl) (by kernel_rfl) (by kernel_rfl) (fun _ _ _ h => h) (Or.inl ⟨by kernel_rfl, ?_⟩) ?_
                rotate_left 1
                · intro w
                  go_simp
                  try with_reducible rfl
                try simp only [Act.put, List.getElem_toArray, List.getElem_cons_zero, List.getElem_cons_succ, List.setIfInBounds_toArray, List.set_cons_zero, List.set_cons_succ, hd0]
                refine wpAny_take (i := 8) (v := ?_) rfl (by kernel_rfl) (by kernel_rfl) (by kernel_rfl) (fun _ _ _ h => h) (Or.inl ⟨by kernel_rfl, ?_⟩) ?_
                rotate_left 1
                · intro w
                  go_simp
                  try with_reducible rfl
                try simp only [Act.put, List.getElem_toArray, List.getElem_cons_zero, List.getElem_cons_succ, List.setIfInBounds_toArray, List.set_cons_zero, List.set_cons_succ, hd0]
                refine wpAny_take (i := 9) (v := ?_) rfl (by kernel_rfl) (by kernel_rfl) (by kernel_rfl) (fun _ _ _ h => h) (Or.inl ⟨by kernel_rfl, ?_⟩) ?_
                rotate_left 1
                · intro w
                  go_simp
                  try with_reducible rfl
                try simp only [Act.put, List.getElem_toArray, List.getElem_cons_zero, List.getElem_cons_succ, List.setIfInBounds_toArray, List.set_cons_zero, List.set_cons_succ, hd0]
                refine wpAny_take (i := 10) (v := ?_) rfl (by kernel_rfl) (by kernel_rfl) (by kernel_rfl) (fun _ _ _ h => h) (Or.inl ⟨by kernel_rfl, ?_⟩) ?_
                rotate_left 1
                · intro w
                  go_simp
                  try with_reducible rfl
                try simp only [Act.put, List.getElem_toArray, List.getElem_cons_zero, List.getElem_cons_succ, List.setIfInBounds_toArray, List.set_cons_zero, List.set_cons_succ, hd0]
                refine wpAny_take (i := 11) (v := ?_) rfl (by kernel_rfl) (by kernel_rfl) (by kernel_rfl) (fun _ _ _ h => h) (Or.inl ⟨by kernel_rfl, ?_⟩) ?_
                rotate_left 1
                · intro w
                  go_simp
                  try with_reducible rfl
                try simp only [Act.put, List.getElem_toArray, List.getElem_cons_zero, List.getElem_cons_succ, List.setIfInBounds_toArray, List.set_cons_zero, List.set_cons_succ, hd0]
                refine wpAny_take (i := 13) (v := ?_) rfl (by kernel_rfl) (by kernel_rfl) (by kernel_rfl) (fun _ _ _ h => h) (Or.inl ⟨by kernel_rfl, ?_⟩) ?_
                rotate_left 1
                · intro w
                  go_simp
                  try with_reducible rfl
                try simp only [Act.put, List.getElem_toArray, List.getElem_cons_zero, List.getElem_cons_succ, List.setIfInBounds_toArray, List.set_cons_zero, List.set_cons_succ, hd0]
                refine wpAny_take (i := 14) (v := ?_) rfl (by kernel_rfl) (by kernel_rfl) (by kernel_rfl) (fun _ _ _ h => h) (Or.inl ⟨by kernel_rfl, ?_⟩) ?_
                rotate_left 1
                · intro w
                  go_simp
                  try with_reducible rfl
                try simp only [Act.put, List.getElem_toArray, List.getElem_cons_zero, List.getElem_cons_succ, List.setIfInBounds_toArray, List.set_cons_zero, List.set_cons_succ, hd0]
                refine wpAny_take (i := 17) (v := ?_) rfl (by kernel_rfl) (by kernel_rfl) (by kernel_rfl) (fun _ _ _ h => h) (Or.inl ⟨by kernel_rfl, ?_⟩) ?_
                rotate_left 1
                · intro w
                  go_simp
                  try with_reducible rfl
                try simp only [Act.put, List.getElem_toArray, List.getElem_cons_zero, List.getElem_cons_succ, List.setIfInBounds_toArray, List.set_cons_zero, List.set_cons_succ, hd0]
                refine wpAny_take (i := 19) (v := ?_) rfl (by kernel_rfl) (by kernel_rfl) (by kernel_rfl) (fun _ _ _ h => h) (Or.inl ⟨by kernel_rfl, ?_⟩) ?_
                rotate_left 1
                · intro w
                  go_simp
                  try with_reducible rfl
                try simp only [Act.put, List.getElem_toArray, List.getElem_cons_zero, List.getElem_cons_succ, List.setIfInBounds_toArray, List.set_cons_zero, List.set_cons_succ, hd0]
                refine wpAny_ready (rs := [12, 18]) (by kernel_rfl) (by simp) ?_
                refine AllReady.cons rfl (fun K hK => ?_) ?_
                · skip
                  go_simp
                  try rw [if_pos hjn]
                  refine hK _ _ ?_
                  clear hK K
                  refine wpAny_take (i := 15) (v := ?_) rfl (by kernel_rfl) (by kernel_rfl) (by kernel_rfl) (fun _ _ _ h => h) (Or.inl ⟨by kernel_rfl, ?_⟩) ?_
                  rotate_left 1
                  · intro w
                    go_simp
                    try with_reducible rfl
                  try simp only [Act.put, List.getElem_toArray, List.getElem_cons_zero, List.getElem_cons_succ, List.setIfInBounds_toArray, List.set_cons_zero, List.set_cons_succ, hd0]
                  refine wpAny_ready (rs := [16, 18]) (by kernel_rfl) (by simp) ?_
                  refine AllReady.cons rfl (fun K hK => ?_) ?_
                  · skip
                    go_simp
                    try rw [if_pos hjn]
                    refine hK _ _ ?_
                    clear hK K
                    refine wpAny_ready (rs := [18]) (by kernel_rfl) (by simp) ?_
                    refine AllReady.cons rfl (fun K hK => ?_) AllReady.nil
                    go_simp
                    try rw [if_pos hjn]
                    refine hK _ _ ?_
                    clear hK K
                    refine wpAny_take (i := 20) (v := ?_) rfl (by kernel_rfl) (by kernel_rfl) (by kernel_rfl) (fun _ _ _ h => h) (Or.inl ⟨by kernel_rfl, ?_⟩) ?_
                    rotate_left 1
                    · intro w
                      go_simp
                      try with_reducible rfl
                    try simp only [Act.put, List.getElem_toArray, List.getElem_cons_zero, List.getElem_cons_succ, List.setIfInBounds_toArray, List.set_cons_zero, List.set_cons_succ, hd0]
                    refine wpAny_ready (rs := [21]) (by kernel_rfl) (by simp) ?_
                    refine AllReady.cons rfl (fun K hK => ?_) AllReady.nil
                    go_simp
                    try rw [if_pos hjn]
                    refine hK _ _ ?_
                    clear hK K
                    refine wpAny_take (i := 22) (v := ?_) rfl (by kernel_rfl) (by kernel_rfl) (by kernel_rfl) (fun _ _ _ h => h) (Or.inl ⟨by kernel_rfl, ?_⟩) ?_
                    rotate_left 1
                    · intro w
                      go_simp
                      try with_reducible rfl
                    try simp only [Act.put, List.getElem_toArray, List.getElem_cons_zero, List.getElem_cons_succ, List.setIfInBounds_toArray, List.set_cons_zero, List.set_cons_succ, hd0]
                    refine wpAny_take (i := 23) (v := ?_) rfl (by kernel_rfl) (by kernel_rfl) (by kernel_rfl) (fun _ _ _ h => h) (Or.inl ⟨by kernel_rfl, ?_⟩) ?_
                    rotate_left 1
                    · intro w
                      go_simp
                      try with_reducible rfl
                    try simp only [Act.put, List.getElem_toArray, List.getElem_cons_zero, List.getElem_cons_succ, List.setIfInBounds_toArray, List.set_cons_zero, List.set_cons_succ, hd0]
                    refine wpAny_take (i := 24) (v := ?_) rfl (by kernel_rfl) (by kernel_rfl) (by kernel_rfl) (fun _ _ _ h => h) (Or.inl ⟨by kernel_rfl, ?_⟩) ?_
                    rotate_left 1
                    · intro w
                      go_simp
                      try with_reducible rfl
                    try simp only [Act.put, List.getElem_toArray, List.getElem_cons_zero, List.getElem_cons_succ, List.setIfInBounds_toArray, List.set_cons_zero, List.set_cons_succ, hd0]
                    refine wpAny_done (by kernel_rfl) ?_ _
                    have hHeld := And.intro HL6.out True.intro
                    obtain ⟨⟨F', hP1, hP2, hP3, hP4, hP5⟩, _⟩ := hHeld
                    have HP1 := Lib.hid hP1
                    have HP2 := Lib.hid hP2
                    have HP3 := Lib.hid hP3
                    have HP4 := Lib.hid hP4
                    clear hP1 hP2 hP3 hP4 hP5
                    go_wp2_with fail
                    go_roundw
                    case rel => exact ⟨j + 1, F', by omega, by go_num, HP1, HP2, HP3, HP4⟩
                    case measure => simp [intOf]; omega
                  refine AllReady.cons rfl (fun K hK => ?_) AllReady.nil
                  go_simp
                  try rw [if_pos hjn]
                  refine hK _ _ ?_
                  clear hK K
                  refine wpAny_take (i := 20) (v := ?_) rfl (by kernel_rfl) (by kernel_rfl) (by kernel_rfl) (fun _ _ _ h => h) (Or.inl ⟨by kernel_rfl, ?_⟩) ?_
                  rotate_left 1
                  · intro w
                    go_simp
                    try with_reducible rfl
                  try simp only [Act.put, List.getElem_toArray, List.getElem_cons_zero, List.getElem_cons_succ, List.setIfInBounds_toArray, List.set_cons_zero, List.set_cons_succ, hd0]
                  refine wpAny_ready (rs := [16, 21]) (by kernel_rfl) (by simp) ?_
                  refine AllReady.cons rfl (fun K hK => ?_) ?_
                  · skip
                    go_simp
                    try rw [if_pos hjn]
                    refine hK _ _ ?_
                    clear hK K
                    refine wpAny_ready (rs := [21]) (by kernel_rfl) (by simp) ?_
                    refine AllReady.cons rfl (fun K hK => ?_) AllReady.nil
                    go_simp
                    try rw [if_pos hjn]
                    refine hK _ _ ?_
                    clear hK K
                    refine wpAny_take (i := 22) (v := ?_) rfl (by kernel_rfl) (by kernel_rfl) (by kernel_rfl) (fun _ _ _ h => h) (Or.inl ⟨by kernel_rfl, ?_⟩) ?_
                    rotate_left 1
                    · intro w
                      go_simp
                      try with_reducible rfl
                    try simp only [Act.put, List.getElem_toArray, List.getElem_cons_zero, List.getElem_cons_succ, List.setIfInBounds_toArray, List.set_cons_zero, List.set_cons_succ, hd0]
                    refine wpAny_take (i := 23) (v := ?_) rfl (by kernel_rfl) (by kernel_rfl) (by kernel_rfl) (fun _ _ _ h => h) (Or.inl ⟨by kernel_rfl, ?_⟩) ?_
                    rotate_left 1
                    · intro w
                      go_simp
                      try with_reducible rfl
                    try simp only [Act.put, List.getElem_toArray, List.getElem_cons_zero, List.getElem_cons_succ, List.setIfInBounds_toArray, List.set_cons_zero, List.set_cons_succ, hd0]
                    refine wpAny_take (i := 24) (v := ?_) rfl (by kernel_rfl) (by kernel_rfl) (by kernel_rfl) (fun _ _ _ h => h) (Or.inl ⟨by kernel_rfl, ?_⟩) ?_
                    rotate_left 1
                    · intro w
                      go_simp
                      try with_reducible rfl
                    try simp only [Act.put, List.getElem_toArray, List.getElem_cons_zero, List.getElem_cons_succ, List.setIfInBounds_toArray, List.set_cons_zero, List.set_cons_succ, hd0]
                    refine wpAny_done (by kernel_rfl) ?_ _
                    have hHeld := And.intro HL6.out True.intro
                    obtain ⟨⟨F', hP1, hP2, hP3, hP4, hP5⟩, _⟩ := hHeld
                    have HP1 := Lib.hid hP1
                    have HP2 := Lib.hid hP2
                    have HP3 := Lib.hid hP3
                    have HP4 := Lib.hid hP4
                    clear hP1 hP2 hP3 hP4 hP5
                    go_wp2_with fail
                    go_roundw
                    case rel => exact ⟨j + 1, F', by omega, by go_num, HP1, HP2, HP3, HP4⟩
                    case measure => simp [intOf]; omega
                  refine AllReady.cons rfl (fun K hK => ?_) AllReady.nil
                  go_simp
                  try rw [if_pos hjn]
                  refine hK _ _ ?_
                  clear hK K
                  refine wpAny_ready (rs := [16]) (by kernel_rfl) (by simp) ?_
                  refine AllReady.cons rfl (fun K hK => ?_) AllReady.nil
                  go_simp
                  try rw [if_pos hjn]
                  refine hK _ _ ?_
                  clear hK K
                  refine wpAny_take (i := 22) (v := ?_) rfl (by kernel_rfl) (by kernel_rfl) (by kernel_rfl) (fun _ _ _ h => h) (Or.inl ⟨by kernel_rfl, ?_⟩) ?_
                  rotate_left 1
                  · intro w
                    go_simp
                    try with_reducible rfl
                  try simp only [Act.put, List.getElem_toArray, List.getElem_cons_zero, List.getElem_cons_succ, List.setIfInBounds_toArray, List.set_cons_zero, List.set_cons_succ, hd0]
                  refine wpAny_take (i := 23) (v := ?_) rfl (by kernel_rfl) (by kernel_rfl) (by kernel_rfl) (fun _ _ _ h => h) (Or.inl ⟨by kernel_rfl, ?_⟩) ?_
                  rotate_left 1
                  · intro w
                    go_simp
                    try with_reducible rfl
                  try simp only [Act.put, List.getElem_toArray, List.getElem_cons_zero, List.getElem_cons_succ, List.setIfInBounds_toArray, List.set_cons_zero, List.set_cons_succ, hd0]
                  refine wpAny_take (i := 24) (v := ?_) rfl (by kernel_rfl) (by kernel_rfl) (by kernel_rfl) (fun _ _ _ h => h) (Or.inl ⟨by kernel_rfl, ?_⟩) ?_
                  rotate_left 1
                  · intro w
                    go_simp
                    try with_reducible rfl
                  try simp only [Act.put, List.getElem_toArray, List.getElem_cons_zero, List.getElem_cons_succ, List.setIfInBounds_toArray, List.set_cons_zero, List.set_cons_succ, hd0]
                  refine wpAny_done (by kernel_rfl) ?_ _
                  have hHeld := And.intro HL6.out True.intro
                  obtain ⟨⟨F', hP1, hP2, hP3, hP4, hP5⟩, _⟩ := hHeld
                  have HP1 := Lib.hid hP1
                  have HP2 := Lib.hid hP2
                  have HP3 := Lib.hid hP3
                  have HP4 := Lib.hid hP4
                  clear hP1 hP2 hP3 hP4 hP5
                  go_wp2_with fail
                  go_roundw
                  case rel => exact ⟨j + 1, F', by omega, by go_num, HP1, HP2, HP3, HP4⟩
                  case measure => simp [intOf]; omega
                refine AllReady.cons rfl (fun K hK => ?_) AllReady.nil
                go_simp
                try rw [if_pos hjn]
                refine hK _ _ ?_
                clear hK K
                refine wpAny_take (i := 20) (v := ?_) rfl (by kernel_rfl) (by kernel_rfl) (by kernel_rfl) (fun _ _ _ h => h) (Or.inl ⟨by kernel_rfl, ?_⟩) ?_
                rotate_left 1
                · intro w
                  go_simp
                  try with_reducible rfl
                try simp only [Act.put, List.getElem_toArray, List.getElem_cons_zero, List.getElem_cons_succ, List.setIfInBounds_toArray, List.set_cons_zero, List.set_cons_succ, hd0]
                refine wpAny_ready (rs := [12, 21]) (by kernel_rfl) (by simp) ?_
                refine AllReady.cons rfl (fun K hK => ?_) ?_
                · skip
                  go_simp
                  try rw [if_pos hjn]
                  refine hK _ _ ?_
                  clear hK K
                  refine wpAny_take (i := 15) (v := ?_) rfl (by kernel_rfl) (by kernel_rfl) (by kernel_rfl) (fun _ _ _ h => h) (Or.inl ⟨by kernel_rfl, ?_⟩) ?_
                  rotate_left 1
                  · intro w
                    go_simp
                    try with_reducible rfl
                  try simp only [Act.put, List.getElem_toArray, List.getElem_cons_zero, List.getElem_cons_succ, List.setIfInBounds_toArray, List.set_cons_zero, List.set_cons_succ, hd0]
                  refine wpAny_ready (rs := [16, 21]) (by kernel_rfl) (by simp) ?_
                  refine AllReady.cons rfl (fun K hK => ?_) ?_
                  · skip
                    go_simp
                    try rw [if_pos hjn]
                    refine hK _ _ ?_
                    clear hK K
                    refine wpAny_ready (rs := [21]) (by kernel_rfl) (by simp) ?_
                    refine AllReady.cons rfl (fun K hK => ?_) AllReady.nil
                    go_simp
                    try rw [if_pos hjn]
                    refine hK _ _ ?_
                    clear hK K
                    refine wpAny_take (i := 22) (v := ?_) rfl (by kernel_rfl) (by kernel_rfl) (by kernel_rfl) (fun _ _ _ h => h) (Or.inl ⟨by kernel_rfl, ?_⟩) ?_
                    rotate_left 1
                    · intro w
                      go_simp
                      try with_reducible rfl
                    try simp only [Act.put, List.getElem_toArray, List.getElem_cons_zero, List.getElem_cons_succ, List.setIfInBounds_toArray, List.set_cons_zero, List.set_cons_succ, hd0]
                    refine wpAny_take (i := 23) (v := ?_) rfl (by kernel_rfl) (by kernel_rfl) (by kernel_rfl) (fun _ _ _ h => h) (Or.inl ⟨by kernel_rfl, ?_⟩) ?_
                    rotate_left 1
                    · intro w
                      go_simp
                      try with_reducible rfl
                    try simp only [Act.put, List.getElem_toArray, List.getElem_cons_zero, List.getElem_cons_succ, List.setIfInBounds_toArray, List.set_cons_zero, List.set_cons_succ, hd0]
                    refine wpAny_take (i := 24) (v := ?_) rfl (by kernel_rfl) (by kernel_rfl) (by kernel_rfl) (fun _ _ _ h => h) (Or.inl ⟨by kernel_rfl, ?_⟩) ?_
                    rotate_left 1
                    · intro w
                      go_simp
                      try with_reducible rfl
                    try simp only [Act.put, List.getElem_toArray, List.getElem_cons_zero, List.getElem_cons_succ, List.setIfInBounds_toArray, List.set_cons_zero, List.set_cons_succ, hd0]
                    refine wpAny_done (by kernel_rfl) ?_ _
                    have hHeld := And.intro HL6.out True.intro
                    obtain ⟨⟨F', hP1, hP2, hP3, hP4, hP5⟩, _⟩ := hHeld
                    have HP1 := Lib.hid hP1
                    have HP2 := Lib.hid hP2
                    have HP3 := Lib.hid hP3
                    have HP4 := Lib.hid hP4
                    clear hP1 hP2 hP3 hP4 hP5
                    go_wp2_with fail
                    go_roundw
                    case rel => exact ⟨j + 1, F', by omega, by go_num, HP1, HP2, HP3, HP4⟩
                    case measure => simp [intOf]; omega
                  refine AllReady.cons rfl (fun K hK => ?_) AllReady.nil
                  go_simp
                  try rw [if_pos hjn]
                  refine hK _ _ ?_
                  clear hK K
                  refine wpAny_ready (rs := [16]) (by kernel_rfl) (by simp) ?_
                  refine AllReady.cons rfl (fun K hK => ?_) AllReady.nil
                  go_simp
                  try rw [if_pos hjn]
                  refine hK _ _ ?_
                  clear hK K
                  refine wpAny_take (i := 22) (v := ?_) rfl (by kernel_rfl) (by kernel_rfl) (by kernel_rfl) (fun _ _ _ h => h) (Or.inl ⟨by kernel_rfl, ?_⟩) ?_
                  rotate_left 1
                  · intro w
                    go_simp
                    try with_reducible rfl
                  try simp only [Act.put, List.getElem_toArray, List.getElem_cons_zero, List.getElem_cons_succ, List.setIfInBounds_toArray, List.set_cons_zero, List.set_cons_succ, hd0]
                  refine wpAny_take (i := 23) (v := ?_) rfl (by kernel_rfl) (by kernel_rfl) (by kernel_rfl) (fun _ _ _ h => h) (Or.inl ⟨by kernel_rfl, ?_⟩) ?_
                  rotate_left 1
                  · intro w
                    go_simp
                    try with_reducible rfl
                  try simp only [Act.put, List.getElem_toArray, List.getElem_cons_zero, List.getElem_cons_succ, List.setIfInBounds_toArray, List.set_cons_zero, List.set_cons_succ, hd0]
                  refine wpAny_take (i := 24) (v := ?_) rfl (by kernel_rfl) (by kernel_rfl) (by kernel_rfl) (fun _ _ _ h => h) (Or.inl ⟨by kernel_rfl, ?_⟩) ?_
                  rotate_left 1
                  · intro w
                    go_simp
                    try with_reducible rfl
                  try simp only [Act.put, List.getElem_toArray, List.getElem_cons_zero, List.getElem_cons_succ, List.setIfInBounds_toArray, List.set_cons_zero, List.set_cons_succ, hd0]
                  refine wpAny_done (by kernel_rfl) ?_ _
                  have hHeld := And.intro HL6.out True.intro
                  obtain ⟨⟨F', hP1, hP2, hP3, hP4, hP5⟩, _⟩ := hHeld
                  have HP1 := Lib.hid hP1
                  have HP2 := Lib.hid hP2
                  have HP3 := Lib.hid hP3
                  have HP4 := Lib.hid hP4
                  clear hP1 hP2 hP3 hP4 hP5
                  go_wp2_with fail
                  go_roundw
                  case rel => exact ⟨j + 1, F', by omega, by go_num, HP1, HP2, HP3, HP4⟩
                  case measure => simp [intOf]; omega
                refine AllReady.cons rfl (fun K hK => ?_) AllReady.nil
                go_simp
                try rw [if_pos hjn]
                refine hK _ _ ?_
                clear hK K
                refine wpAny_ready (rs := [12]) (by kernel_rfl) (by simp) ?_
                refine AllReady.cons rfl (fun K hK => ?_) AllReady.nil
                go_simp
                try rw [if_pos hjn]
                refine hK _ _ ?_
                clear hK K
                refine wpAny_take (i := 15) (v := ?_) rfl (by kernel_rfl) (by kernel_rfl) (by kernel_rfl) (fun _ _ _ h => h) (Or.inl ⟨by kernel_rfl, ?_⟩) ?_
                rotate_left 1
                · intro w
                  go_simp
                  try with_reducible rfl
                try simp only [Act.put, List.getElem_toArray, List.getElem_cons_zero, List.getElem_cons_succ, List.setIfInBounds_toArray, List.set_cons_zero, List.set_cons_succ, hd0]
                refine wpAny_ready (rs := [16]) (by kernel_rfl) (by simp) ?_
                refine AllReady.cons rfl (fun K hK => ?_) AllReady.nil
                go_simp
                try rw [if_pos hjn]
                refine hK _ _ ?_
                clear hK K
                refine wpAny_take (i := 22) (v := ?_) rfl (by kernel_rfl) (by kernel_rfl) (by kernel_rfl) (fun _ _ _ h => h) (Or.inl ⟨by kernel_rfl, ?_⟩) ?_
                rotate_left 1
                · intro w
                  go_simp
                  try with_reducible rfl
                try simp only [Act.put, List.getElem_toArray, List.getElem_cons_zero, List.getElem_cons_succ, List.setIfInBounds_toArray, List.set_cons_zero, List.set_cons_succ, hd0]
                refine wpAny_take (i := 23) (v := ?_) rfl (by kernel_rfl) (by kernel_rfl) (by kernel_rfl) (fun _ _ _ h => h) (Or.inl ⟨by kernel_rfl, ?_⟩) ?_
                rotate_left 1
                · intro w
                  go_simp
                  try with_reducible rfl
                try simp only [Act.put, List.getElem_toArray, List.getElem_cons_zero, List.getElem_cons_succ, List.setIfInBounds_toArray, List.set_cons_zero, List.set_cons_succ, hd0]
                refine wpAny_take (i := 24) (v := ?_) rfl (by kernel_rfl) (by kernel_rfl) (by kernel_rfl) (fun _ _ _ h => h) (Or.inl ⟨by kernel_rfl, ?_⟩) ?_
                rotate_left 1
                · intro w
                  go_simp
                  try with_reducible rfl
                try simp only [Act.put, List.getElem_toArray, List.getElem_cons_zero, List.getElem_cons_succ, List.setIfInBounds_toArray, List.set_cons_zero, List.set_cons_succ, hd0]
                refine wpAny_done (by kernel_rfl) ?_ _
                have hHeld := And.intro HL6.out True.intro
                obtain ⟨⟨F', hP1, hP2, hP3, hP4, hP5⟩, _⟩ := hHeld
                have HP1 := Lib.hid hP1
                have HP2 := Lib.hid hP2
                have HP3 := Lib.hid hP3
                have HP4 := Lib.hid hP4
                clear hP1 hP2 hP3 hP4 hP5
                go_wp2_with fail
                go_roundw
                case rel => exact ⟨j + 1, F', by omega, by go_num, HP1, HP2, HP3, HP4⟩
                case measure => simp [intOf]; omega
              · obtain ⟨bk, o, c3, e3, hcc, hlt3, hcell⟩ := HJ4.out.names.cells hie
                simp only [Value.slice.injEq] at e3
                obtain ⟨rfl, _, rfl⟩ := e3
                have HN3 := Lib.hid (svals_at hcell)
                have hcn : ini.length ≤ cN := hcc
                obtain ⟨B0, hB0⟩ : ∃ B0, wr.heap.size = B0 := ⟨_, rfl⟩
                clear hcell hcc
                go_wp2_with (at_builtin; first | (refine wpList_append_own _ rfl _ _ 30 rfl B0 9 i0 (.string ⟨#[]⟩) 1 16 Tryz.underlying30 hi hz0 hz1 hz2 rfl (by decide) (.slice none 0 0) 0 [] rfl (World.ownsRow_nil _ _ _ _) ⟨bk, o, none⟩ ini.length cN (svals ini) rfl (by rw [svals_length, Nat.mul_one]) HN3.out (by unfold svals; simp [Value.oneCell']) (by unfold maxLen; omega) (by omega) (by omega) ?_; intro v3 w3 hown3 hgrow3 _; rw [Nat.zero_add, List.nil_append] at hown3; obtain ⟨A3, c3, rfl⟩ := own_slice hown3; have HB3 := Lib.hid (Below.grown (Below.refl wr.heap.size wr) hgrow3 (by omega) (fun k e => by cases e)); have hsz3 : B0 ≤ w3.heap.size := (by have := hgrow3.size; omega); have HO3 := Lib.hid hown3; have y13 := pw_cell_below HB3.out y13; have zx := pw_cell_below HB3.out zx; clear hown3 hgrow3) | (refine wpList_append_own _ rfl _ _ 30 rfl B0 9 i0 (.string ⟨#[]⟩) 1 16 Tryz.underlying30 hi hz0 hz1 hz2 rfl (by decide) _ ini.length (svals ini) rfl (HO3.out.alloc _) ⟨w3.heap.size, 0, none⟩ 1 1 [.string (mk x)] rfl rfl (cell_one_new _ _ _) (by simp [Value.oneCell']) (by unfold maxLen; omega) (by omega) (by rw [World.size_alloc]; omega) ?_; intro v4 w4 hown4 hgrow4 _; obtain ⟨A4, c4, rfl⟩ := own_slice hown4; have HBW := Lib.hid (Below.grown (balloc HB3.out) hgrow4 (by have := HB3.out.size; rw [World.size_alloc]; omega) (fun k e => by have := own_base HO3.out k e; omega)); have HNW := Lib.hid (held_new (F := Fj) (base := B0) (A := A4) (c := c4) (ns := ini ++ [x]) (by have := Strs.of_row (ns := ini ++ [x]) (by rw [svals_snoc]; simpa using hown4) (by simp; omega); simpa using this) (fun r hr => own_base hown4 r (by simpa using hr)) (fun b hb => by have := HJ1.out.ts.tree.2 b hb; omega)); clear hown4 hgrow4))
                have HLD : Hid (Laid w (0 + k + 1 + 1) tb g2 a1 a2 (some ad) A2 c1 c2 b1 b2 ini (ini ++ [x]) (some ⟨bk, o, none⟩) A4 cN c4 w4) := Lib.hid ⟨_, HJ1.out.more HBW.out, HJ2.out.ext (Ext.of_below HBW.out), HJ3.out.ext (Ext.of_below HBW.out), HJ4.out.ext (Ext.of_below HBW.out), HNW.out⟩
                have HMK := Lib.hid (fun (W : World) (h : Laid w (0 + k + 1 + 1) tb g2 a1 a2 (some ad) A2 c1 c2 b1 b2 ini (ini ++ [x]) (some ⟨bk, o, none⟩) A4 cN c4 W) => (show Laid w (0 + k + 1 + 1) tb g2 a1 a2 (some ad) A2 c1 c2 b1 b2 ini (ini ++ [x]) (some ⟨bk, o, none⟩) A4 cN c4 W ∧ W.cell? ⟨b1, 3, none⟩ = some (.slice (some ad) m c1) ∧ W.cell? (ad.add j) = some (.string (mk x)) ∧ W.cell? (ad.add jp) = some (.string (mk y)) from ⟨h, h.cell HM.out, h.next HX.out, h.next HY.out⟩))
                clear y13 zx
                clear zy
                refine wp_region_any (by kernel_rfl) ?_
                try (change wpAny _ _ _ _ _ _ _ (World.drew _))
                refine wpAny_take (i := 0) (v := ?_) rfl (by kernel_rfl) (by kernel_rfl) (by kernel_rfl) (fun _ _ _ h => h) (Or.inl ⟨by kernel_rfl, ?_⟩) ?_
                rotate_left 1
                · intro w
                  go_simp
                  try with_reducible rfl
                try simp only [Act.put, List.getElem_toArray, List.getElem_cons_zero, List.getElem_cons_succ, List.setIfInBounds_toArray, List.set_cons_zero, List.set_cons_succ, hd0]
                refine wpAny_take (i := 1) (v := ?_) rfl (by kernel_rfl) (by kernel_rfl) (by kernel_rfl) (fun _ _ _ h => h) (Or.inl ⟨by kernel_rfl, ?_⟩) ?_
                rotate_left 1
                · intro w
                  go_simp
                  try with_reducible rfl
                try simp only [Act.put, List.getElem_toArray, List.getElem_cons_zero, List.getElem_cons_succ, List.setIfInBounds_toArray, List.set_cons_zero, List.set_cons_succ, hd0]
                refine wpAny_ready (rs := [2]) (by kernel_rfl) (by simp) ?_
                refine AllReady.cons rfl (fun K hK => ?_) AllReady.nil
                go_simp
                go_wp2_with (first | (go_at_call 18; refine (join_lit _ (ini ++ [x]) s HQS.out _ (Laid.strs (HLD.out.below ((Below.refl _ _).drew)) (by simp)) hsz hil).mono ?_; rintro e w5 ⟨rfl, hB5⟩; have HL5 := Lib.hid ((HLD.out.below ((Below.refl _ _).drew)).below hB5); clear hB5) | (go_at_call 13; refine (Laid.stat HL5.out (by omega) q3 HRQ.out).mono ?_; rintro e w6 ⟨A', c', rfl, hP⟩; have HL6 := Lib.hid hP; clear hP))
                try (refine hK _ _ ?_; clear hK K)
                refine wpAny_take (i := 3) (v := ?_) rfl (by kernel_rfl) (by kernel_rfl) (by kernel_rfl) (fun _ _ _ h => h) (Or.inl ⟨by kernel_rfl, ?_⟩) ?_
                rotate_left 1
                · intro w
                  go_simp
                  try with_reducible rfl
                try simp only [Act.put, List.getElem_toArray, List.getElem_cons_zero, List.getElem_cons_succ, List.setIfInBounds_toArray, List.set_cons_zero, List.set_cons_succ, hd0]
                refine wpAny_ready (rs := [4]) (by kernel_rfl) (by simp) ?_
                refine AllReady.cons rfl (fun K hK => ?_) AllReady.nil
                go_simp
                go_wp2_with (first | (go_at_call 18; refine (join_lit _ (ini ++ [x]) s HQS.out _ (Laid.strs (HLD.out.below ((Below.refl _ _).drew)) (by simp)) hsz hil).mono ?_; rintro e w5 ⟨rfl, hB5⟩; have HL5 := Lib.hid ((HLD.out.below ((Below.refl _ _).drew)).below hB5); clear hB5) | (go_at_call 13; refine (Laid.stat HL5.out (by omega) q3 HRQ.out).mono ?_; rintro e w6 ⟨A', c', rfl, hP⟩; have HL6 := Lib.hid hP; clear hP))
                try (refine hK _ _ ?_; clear hK K)
                have y13 := HL6.out.cell HM.out
                have zx := HL6.out.next HX.out
                have zy := HL6.out.next HY.out
                refine wpAny_take (i := 5) (v := ?_) rfl (by kernel_rfl) (by kernel_rfl) (by kernel_rfl) (fun _ _ _ h => h) (Or.inl ⟨by kernel_rfl, ?_⟩) ?_
                rotate_left 1
                · intro w
                  go_simp
                  try with_reducible rfl
                try simp only [Act.put, List.getElem_toArray, List.getElem_cons_zero, List.getElem_cons_succ, List.setIfInBounds_toArray, List.set_cons_zero, List.set_cons_succ, hd0]
                refine wpAny_take (i := 6) (v := ?_) rfl (by kernel_rfl) (by kernel_rfl) (by kernel_rfl) (fun _ _ _ h => h) (Or.inl ⟨by kernel_rfl, ?_⟩) ?_
                rotate_left 1
                · intro w
                  go_simp
                  try with_reducible rfl
                try simp only [Act.put, List.getElem_toArray, List.getElem_cons_zero, List.getElem_cons_succ, List.setIfInBounds_toArray, List.set_cons_zero, List.set_cons_succ, hd0]
                refine wpAny_take (i := 7) (v := ?_) rfl (by kernel_rfl) (by kernel_rfl) (by kernel_rfl) (fun _ _ _ h => h) (Or.inl ⟨by kernel_rfl, ?_⟩) ?_
                rotate_left 1
                · intro w
                  go_simp
                  try with_reducible rfl
                try simp only [Act.put, List.getElem_toArray, List.getElem_cons_zero, List.getElem_cons_succ, List.setIfInBounds_toArray, List.set_cons_zero, List.set_cons_succ, hd0]
                refine wpAny_take (i := 8) (v := ?_) rfl (by kernel_rfl) (by kernel_rfl) (by kernel_rfl) (fun _ _ _ h => h) (Or.inl ⟨by kernel_rfl, ?_⟩) ?_
                rotate_left 1
                · intro w
                  go_simp
                  try with_reducible rfl
                try simp only [Act.put, List.getElem_toArray, List.getElem_cons_zero, List.getElem_cons_succ, List.setIfInBounds_toArray, List.set_cons_zero, List.set_cons_succ, hd0]
                refine wpAny_take (i := 9) (v := ?_) rfl (by kernel_rfl) (by kernel_rfl) (by kernel_rfl) (fun _ _ _ h => h) (Or.inl ⟨by kernel_rfl, ?_⟩) ?_
                rotate_left 1
                · intro w
                  go_simp
                  try with_reducible rfl
                try simp only [Act.put, List.getElem_toArray, List.getElem_cons_zero, List.getElem_cons_succ, List.setIfInBounds_toArray, List.set_cons_zero, List.set_cons_succ, hd0]
                refine wpAny_take (i := 10) (v := ?_) rfl (by kernel_rfl) (by kernel_rfl) (by kernel_rfl) (fun _ _ _ h => h) (Or.inl ⟨by kernel_rfl, ?_⟩) ?_
                rotate_left 1
                · intro w
                  go_simp
                  try with_reducible rfl
                try simp only [Act.put, List.getElem_toArray, List.getElem_cons_zero, List.getElem_cons_succ, List.setIfInBounds_toArray, List.set_cons_zero, List.set_cons_succ, hd0]
                refine wpAny_take (i := 11) (v := ?_) rfl (by kernel_rfl) (by kernel_rfl) (by kernel_rfl) (fun _ _ _ h => h) (Or.inl ⟨by kernel_rfl, ?_⟩) ?_
                rotate_left 1
                · intro w
                  go_simp
                  try with_reducible rfl
                try simp only [Act.put, List.getElem_toArray, List.getElem_cons_zero, List.getElem_cons_succ, List.setIfInBounds_toArray, List.set_cons_zero, List.set_cons_succ, hd0]
                refine wpAny_take (i := 13) (v := ?_) rfl (by kernel_rfl) (by kernel_rfl) (by kernel_rfl) (fun _ _ _ h => h) (Or.inl ⟨by kernel_rfl, ?_⟩) ?_
                rotate_left 1
                · intro w
                  go_simp
                  try with_reducible rfl
                try simp only [Act.put, List.getElem_toArray, List.getElem_cons_zero, List.getElem_cons_succ, List.setIfInBounds_toArray, List.set_cons_zero, List.set_cons_succ, hd0]
                refine wpAny_take (i := 14) (v := ?_) rfl (by kernel_rfl) (by kernel_rfl) (by kernel_rfl) (fun _ _ _ h => h) (Or.inl ⟨by kernel_rfl, ?_⟩) ?_
                rotate_left 1
                · intro w
                  go_simp
                  try with_reducible rfl
                try simp only [Act.put, List.getElem_toArray, List.getElem_cons_zero, List.getElem_cons_succ, List.setIfInBounds_toArray, List.set_cons_zero, List.set_cons_succ, hd0]
                refine wpAny_take (i := 17) (v := ?_) rfl (by kernel_rfl) (by kernel_rfl) (by kernel_rfl) (fun _ _ _ h => h) (Or.inl ⟨by kernel_rfl, ?_⟩) ?_
                rotate_left 1
                · intro w
                  go_simp
                  try with_reducible rfl
                try simp only [Act.put, List.getElem_toArray, List.getElem_cons_zero, List.getElem_cons_succ, List.setIfInBounds_toArray, List.set_cons_zero, List.set_cons_succ, hd0]
                refine wpAny_take (i := 19) (v := ?_) rfl (by kernel_rfl) (by kernel_rfl) (by kernel_rfl) (fun _ _ _ h => h) (Or.inl ⟨by kernel_rfl, ?_⟩) ?_
                rotate_left 1
                · intro w
                  go_simp
                  try with_reducible rfl
                try simp only [Act.put, List.getElem_toArray, List.getElem_cons_zero, List.getElem_cons_succ, List.setIfInBounds_toArray, List.set_cons_zero, List.set_cons_succ, hd0]
                refine wpAny_ready (rs := [12, 18]) (by kernel_rfl) (by simp) ?_
                refine AllReady.cons rfl (fun K hK => ?_) ?_
                · skip
                  go_simp
                  try rw [if_pos hjn]
                  refine hK _ _ ?_
                  clear hK K
                  refine wpAny_take (i := 15) (v := ?_) rfl (by kernel_rfl) (by kernel_rfl) (by kernel_rfl) (fun _ _ _ h => h) (Or.inl ⟨by kernel_rfl, ?_⟩) ?_
                  rotate_left 1
                  · intro w
                    go_simp
                    try with_reducible rfl
                  try simp only [Act.put, List.getElem_toArray, List.getElem_cons_zero, List.getElem_cons_succ, List.setIfInBounds_toArray, List.set_cons_zero, List.set_cons_succ, hd0]
                  refine wpAny_ready (rs := [16, 18]) (by kernel_rfl) (by simp) ?_
                  refine AllReady.cons rfl (fun K hK => ?_) ?_
                  · skip
                    go_simp
                    try rw [if_pos hjn]
                    refine hK _ _ ?_
                    clear hK K
                    refine wpAny_ready (rs := [18]) (by kernel_rfl) (by simp) ?_
                    refine AllReady.cons rfl (fun K hK => ?_) AllReady.nil
                    go_simp
                    try rw [if_pos hjn]
                    refine hK _ _ ?_
                    clear hK K
                    refine wpAny_take (i := 20) (v := ?_) rfl (by kernel_rfl) (by kernel_rfl) (by kernel_rfl) (fun _ _ _ h => h) (Or.inl ⟨by kernel_rfl, ?_⟩) ?_
                    rotate_left 1
                    · intro w
                      go_simp
                      try with_reducible rfl
                    try simp only [Act.put, List.getElem_toArray, List.getElem_cons_zero, List.getElem_cons_succ, List.setIfInBounds_toArray, List.set_cons_zero, List.set_cons_succ, hd0]
                    refine wpAny_ready (rs := [21]) (by kernel_rfl) (by simp) ?_
                    refine AllReady.cons rfl (fun K hK => ?_) AllReady.nil
                    go_simp
                    try rw [if_pos hjn]
                    refine hK _ _ ?_
                    clear hK K
                    refine wpAny_take (i := 22) (v := ?_) rfl (by kernel_rfl) (by kernel_rfl) (by kernel_rfl) (fun _ _ _ h => h) (Or.inl ⟨by kernel_rfl, ?_⟩) ?_
                    rotate_left 1
                    · intro w
                      go_simp
                      try with_reducible rfl
                    try simp only [Act.put, List.getElem_toArray, List.getElem_cons_zero, List.getElem_cons_succ, List.setIfInBounds_toArray, List.set_cons_zero, List.set_cons_succ, hd0]
                    refine wpAny_take (i := 23) (v := ?_) rfl (by kernel_rfl) (by kernel_rfl) (by kernel_rfl) (fun _ _ _ h => h) (Or.inl ⟨by kernel_rfl, ?_⟩) ?_
                    rotate_left 1
                    · intro w
                      go_simp
                      try with_reducible rfl
                    try simp only [Act.put, List.getElem_toArray, List.getElem_cons_zero, List.getElem_cons_succ, List.setIfInBounds_toArray, List.set_cons_zero, List.set_cons_succ, hd0]
                    refine wpAny_take (i := 24) (v := ?_) rfl (by kernel_rfl) (by kernel_rfl) (by kernel_rfl) (fun _ _ _ h => h) (Or.inl ⟨by kernel_rfl, ?_⟩) ?_
                    rotate_left 1
                    · intro w
                      go_simp
                      try with_reducible rfl
                    try simp only [Act.put, List.getElem_toArray, List.getElem_cons_zero, List.getElem_cons_succ, List.setIfInBounds_toArray, List.set_cons_zero, List.set_cons_succ, hd0]
                    refine wpAny_done (by kernel_rfl) ?_ _
                    have hHeld := And.intro HL6.out True.intro
                    obtain ⟨⟨F', hP1, hP2, hP3, hP4, hP5⟩, _⟩ := hHeld
                    have HP1 := Lib.hid hP1
                    have HP2 := Lib.hid hP2
                    have HP3 := Lib.hid hP3
                    have HP4 := Lib.hid hP4
                    clear hP1 hP2 hP3 hP4 hP5
                    go_wp2_with fail
                    go_roundw
                    case rel => exact ⟨j + 1, F', by omega, by go_num, HP1, HP2, HP3, HP4⟩
                    case measure => simp [intOf]; omega
                  refine AllReady.cons rfl (fun K hK => ?_) AllReady.nil
                  go_simp
                  try rw [if_pos hjn]
                  refine hK _ _ ?_
                  clear hK K
                  refine wpAny_take (i := 20) (v := ?_) rfl (by kernel_rfl) (by kernel_rfl) (by kernel_rfl) (fun _ _ _ h => h) (Or.inl ⟨by kernel_rfl, ?_⟩) ?_
                  rotate_left 1
                  · intro w
                    go_simp
                    try with_reducible rfl
                  try simp only [Act.put, List.getElem_toArray, List.getElem_cons_zero, List.getElem_cons_succ, List.setIfInBounds_toArray, List.set_cons_zero, List.set_cons_succ, hd0]
                  refine wpAny_ready (rs := [16, 21]) (by kernel_rfl) (by simp) ?_
                  refine AllReady.cons rfl (fun K hK => ?_) ?_
                  · skip
                    go_simp
                    try rw [if_pos hjn]
                    refine hK _ _ ?_
                    clear hK K
                    refine wpAny_ready (rs := [21]) (by kernel_rfl) (by simp) ?_
                    refine AllReady.cons rfl (fun K hK => ?_) AllReady.nil
                    go_simp
                    try rw [if_pos hjn]
                    refine hK _ _ ?_
                    clear hK K
                    refine wpAny_take (i := 22) (v := ?_) rfl (by kernel_rfl) (by kernel_rfl) (by kernel_rfl) (fun _ _ _ h => h) (Or.inl ⟨by kernel_rfl, ?_⟩) ?_
                    rotate_left 1
                    · intro w
                      go_simp
                      try with_reducible rfl
                    try simp only [Act.put, List.getElem_toArray, List.getElem_cons_zero, List.getElem_cons_succ, List.setIfInBounds_toArray, List.set_cons_zero, List.set_cons_succ, hd0]
                    refine wpAny_take (i := 23) (v := ?_) rfl (by kernel_rfl) (by kernel_rfl) (by kernel_rfl) (fun _ _ _ h => h) (Or.inl ⟨by kernel_rfl, ?_⟩) ?_
                    rotate_left 1
                    · intro w
                      go_simp
                      try with_reducible rfl
                    try simp only [Act.put, List.getElem_toArray, List.getElem_cons_zero, List.getElem_cons_succ, List.setIfInBounds_toArray, List.set_cons_zero, List.set_cons_succ, hd0]
                    refine wpAny_take (i := 24) (v := ?_) rfl (by kernel_rfl) (by kernel_rfl) (by kernel_rfl) (fun _ _ _ h => h) (Or.inl ⟨by kernel_rfl, ?_⟩) ?_
                    rotate_left 1
                    · intro w
                      go_simp
                      try with_reducible rfl
                    try simp only [Act.put, List.getElem_toArray, List.getElem_cons_zero, List.getElem_cons_succ, List.setIfInBounds_toArray, List.set_cons_zero, List.set_cons_succ, hd0]
                    refine wpAny_done (by kernel_rfl) ?_ _
                    have hHeld := And.intro HL6.out True.intro
                    obtain ⟨⟨F', hP1, hP2, hP3, hP4, hP5⟩, _⟩ := hHeld
                    have HP1 := Lib.hid hP1
                    have HP2 := Lib.hid hP2
                    have HP3 := Lib.hid hP3
                    have HP4 := Lib.hid hP4
                    clear hP1 hP2 hP3 hP4 hP5
                    go_wp2_with fail
                    go_roundw
                    case rel => exact ⟨j + 1, F', by omega, by go_num, HP1, HP2, HP3, HP4⟩
                    case measure => simp [intOf]; omega
                  refine AllReady.cons rfl (fun K hK => ?_) AllReady.nil
                  go_simp
                  try rw [if_pos hjn]
                  refine hK _ _ ?_
                  clear hK K
                  refine wpAny_ready (rs := [16]) (by kernel_rfl) (by simp) ?_
                  refine AllReady.cons rfl (fun K hK => ?_) AllReady.nil
                  go_simp
                  try rw [if_pos hjn]
                  refine hK _ _ ?_
                  clear hK K
                  refine wpAny_take (i := 22) (v := ?_) rfl (by kernel_rfl) (by kernel_rfl) (by kernel_rfl) (fun _ _ _ h => h) (Or.inl ⟨by kernel_rfl, ?_⟩) ?_
                  rotate_left 1
                  · intro w
                    go_simp
                    try with_reducible rfl
                  try simp only [Act.put, List.getElem_toArray, List.getElem_cons_zero, List.getElem_cons_succ, List.setIfInBounds_toArray, List.set_cons_zero, List.set_cons_succ, hd0]
                  refine wpAny_take (i := 23) (v := ?_) rfl (by kernel_rfl) (by kernel_rfl) (by kernel_rfl) (fun _ _ _ h => h) (Or.inl ⟨by kernel_rfl, ?_⟩) ?_
                  rotate_left 1
                  · intro w
                    go_simp
                    try with_reducible rfl
                  try simp only [Act.put, List.getElem_toArray, List.getElem_cons_zero, List.getElem_cons_succ, List.setIfInBounds_toArray, List.set_cons_zero, List.set_cons_succ, hd0]
                  refine wpAny_take (i := 24) (v := ?_) rfl (by kernel_rfl) (by kernel_rfl) (by kernel_rfl) (fun _ _ _ h => h) (Or.inl ⟨by kernel_rfl, ?_⟩) ?_
                  rotate_left 1
                  · intro w
                    go_simp
                    try with_reducible rfl
                  try simp only [Act.put, List.getElem_toArray, List.getElem_cons_zero, List.getElem_cons_succ, List.setIfInBounds_toArray, List.set_cons_zero, List.set_cons_succ, hd0]
                  refine wpAny_done (by kernel_rfl) ?_ _
                  have hHeld := And.intro HL6.out True.intro
                  obtain ⟨⟨F', hP1, hP2, hP3, hP4, hP5⟩, _⟩ := hHeld
                  have HP1 := Lib.hid hP1
                  have HP2 := Lib.hid hP2
                  have HP3 := Lib.hid hP3
                  have HP4 := Lib.hid hP4
                  clear hP1 hP2 hP3 hP4 hP5
                  go_wp2_with fail
                  go_roundw
                  case rel => exact ⟨j + 1, F', by omega, by go_num, HP1, HP2, HP3, HP4⟩
                  case measure => simp [intOf]; omega
                refine AllReady.cons rfl (fun K hK => ?_) AllReady.nil
                go_simp
                try rw [if_pos hjn]
                refine hK _ _ ?_
                clear hK K
                refine wpAny_take (i := 20) (v := ?_) rfl (by kernel_rfl) (by kernel_rfl) (by kernel_rfl) (fun _ _ _ h => h) (Or.inl ⟨by kernel_rfl, ?_⟩) ?_
                rotate_left 1
                · intro w
                  go_simp
                  try with_reducible rfl
                try simp only [Act.put, List.getElem_toArray, List.getElem_cons_zero, List.getElem_cons_succ, List.setIfInBounds_toArray, List.set_cons_zero, List.set_cons_succ, hd0]
                refine wpAny_ready (rs := [12, 21]) (by kernel_rfl) (by simp) ?_
                refine AllReady.cons rfl (fun K hK => ?_) ?_
                · skip
                  go_simp
                  try rw [if_pos hjn]
                  refine hK _ _ ?_
                  clear hK K
                  refine wpAny_take (i := 15) (v := ?_) rfl (by kernel_rfl) (by kernel_rfl) (by kernel_rfl) (fun _ _ _ h => h) (Or.inl ⟨by kernel_rfl, ?_⟩) ?_
                  rotate_left 1
                  · intro w
                    go_simp
                    try with_reducible rfl
                  try simp only [Act.put, List.getElem_toArray, List.getElem_cons_zero, List.getElem_cons_succ, List.setIfInBounds_toArray, List.set_cons_zero, List.set_cons_succ, hd0]
                  refine wpAny_ready (rs := [16, 21]) (by kernel_rfl) (by simp) ?_
                  refine AllReady.cons rfl (fun K hK => ?_) ?_
                  · skip
                    go_simp
                    try rw [if_pos hjn]
                    refine hK _ _ ?_
                    clear hK K
                    refine wpAny_ready (rs := [21]) (by kernel_rfl) (by simp) ?_
                    refine AllReady.cons rfl (fun K hK => ?_) AllReady.nil
                    go_simp
                    try rw [if_pos hjn]
                    refine hK _ _ ?_
                    clear hK K
                    refine wpAny_take (i := 22) (v := ?_) rfl (by kernel_rfl) (by kernel_rfl) (by kernel_rfl) (fun _ _ _ h => h) (Or.inl ⟨by kernel_rfl, ?_⟩) ?_
                    rotate_left 1
                    · intro w
                      go_simp
                      try with_reducible rfl
                    try simp only [Act.put, List.getElem_toArray, List.getElem_cons_zero, List.getElem_cons_succ, List.setIfInBounds_toArray, List.set_cons_zero, List.set_cons_succ, hd0]
                    refine wpAny_take (i := 23) (v := ?_) rfl (by kernel_rfl) (by kernel_rfl) (by kernel_rfl) (fun _ _ _ h => h) (Or.inl ⟨by kernel_rfl, ?_⟩) ?_
                    rotate_left 1
                    · intro w
                      go_simp
                      try with_reducible rfl
                    try simp only [Act.put, List.getElem_toArray, List.getElem_cons_zero, List.getElem_cons_succ, List.setIfInBounds_toArray, List.set_cons_zero, List.set_cons_succ, hd0]
                    refine wpAny_take (i := 24) (v := ?_) rfl (by kernel_rfl) (by kernel_rfl) (by kernel_rfl) (fun _ _ _ h => h) (Or.inl ⟨by kernel_rfl, ?_⟩) ?_
                    rotate_left 1
                    · intro w
                      go_simp
                      try with_reducible rfl
                    try simp only [Act.put, List.getElem_toArray, List.getElem_cons_zero, List.getElem_cons_succ, List.setIfInBounds_toArray, List.set_cons_zero, List.set_cons_succ, hd0]
                    refine wpAny_done (by kernel_rfl) ?_ _
                    have hHeld := And.intro HL6.out True.intro
                    obtain ⟨⟨F', hP1, hP2, hP3, hP4, hP5⟩, _⟩ := hHeld
                    have HP1 := Lib.hid hP1
                    have HP2 := Lib.hid hP2
                    have HP3 := Lib.hid hP3
                    have HP4 := Lib.hid hP4
                    clear hP1 hP2 hP3 hP4 hP5
                    go_wp2_with fail
                    go_roundw
                    case rel => exact ⟨j + 1, F', by omega, by go_num, HP1, HP2, HP3, HP4⟩
                    case measure => simp [intOf]; omega
                  refine AllReady.cons rfl (fun K hK => ?_) AllReady.nil
                  go_simp
                  try rw [if_pos hjn]
                  refine hK _ _ ?_
                  clear hK K
                  refine wpAny_ready (rs := [16]) (by kernel_rfl) (by simp) ?_
                  refine AllReady.cons rfl (fun K hK => ?_) AllReady.nil
                  go_simp
                  try rw [if_pos hjn]
                  refine hK _ _ ?_
                  clear hK K
                  refine wpAny_take (i := 22) (v := ?_) rfl (by kernel_rfl) (by kernel_rfl) (by kernel_rfl) (fun _ _ _ h => h) (Or.inl ⟨by kernel_rfl, ?_⟩) ?_
                  rotate_left 1
                  · intro w
                    go_simp
                    try with_reducible rfl
                  try simp only [Act.put, List.getElem_toArray, List.getElem_cons_zero, List.getElem_cons_succ, List.setIfInBounds_toArray, List.set_cons_zero, List.set_cons_succ, hd0]
                  refine wpAny_take (i := 23) (v := ?_) rfl (by kernel_rfl) (by kernel_rfl) (by kernel_rfl) (fun _ _ _ h => h) (Or.inl ⟨by kernel_rfl, ?_⟩) ?_
                  rotate_left 1
                  · intro w
                    go_simp
                    try with_reducible rfl
                  try simp only [Act.put, List.getElem_toArray, List.getElem_cons_zero, List.getElem_cons_succ, List.setIfInBounds_toArray, List.set_cons_zero, List.set_cons_succ, hd0]
                  refine wpAny_take (i := 24) (v := ?_) rfl (by kernel_rfl) (by kernel_rfl) (by kernel_rfl) (fun _ _ _ h => h) (Or.inl ⟨by kernel_rfl, ?_⟩) ?_
                  rotate_left 1
                  · intro w
                    go_simp
                    try with_reducible rfl
                  try simp only [Act.put, List.getElem_toArray, List.getElem_cons_zero, List.getElem_cons_succ, List.setIfInBounds_toArray, List.set_cons_zero, List.set_cons_succ, hd0]
                  refine wpAny_done (by kernel_rfl) ?_ _
                  have hHeld := And.intro HL6.out True.intro
                  obtain ⟨⟨F', hP1, hP2, hP3, hP4, hP5⟩, _⟩ := hHeld
                  have HP1 := Lib.hid hP1
                  have HP2 := Lib.hid hP2
                  have HP3 := Lib.hid hP3
                  have HP4 := Lib.hid hP4
                  clear hP1 hP2 hP3 hP4 hP5
                  go_wp2_with fail
                  go_roundw
                  case rel => exact ⟨j + 1, F', by omega, by go_num, HP1, HP2, HP3, HP4⟩
                  case measure => simp [intOf]; omega
                refine AllReady.cons rfl (fun K hK => ?_) AllReady.nil
                go_simp
                try rw [if_pos hjn]
                refine hK _ _ ?_
                clear hK K
                refine wpAny_ready (rs := [12]) (by kernel_rfl) (by simp) ?_
                refine AllReady.cons rfl (fun K hK => ?_) AllReady.nil
                go_simp
                try rw [if_pos hjn]
                refine hK _ _ ?_
                clear hK K
                refine wpAny_take (i := 15) (v := ?_) rfl (by kernel_rfl) (by kernel_rfl) (by kernel_rfl) (fun _ _ _ h => h) (Or.inl ⟨by kernel_rfl, ?_⟩) ?_
                rotate_left 1
                · intro w
                  go_simp
                  try with_reducible rfl
                try simp only [Act.put, List.getElem_toArray, List.getElem_cons_zero, List.getElem_cons_succ, List.setIfInBounds_toArray, List.set_cons_zero, List.set_cons_succ, hd0]
                refine wpAny_ready (rs := [16]) (by kernel_rfl) (by simp) ?_
                refine AllReady.cons rfl (fun K hK => ?_) AllReady.nil
                go_simp
                try rw [if_pos hjn]
                refine hK _ _ ?_
                clear hK K
                refine wpAny_take (i := 22) (v := ?_) rfl (by kernel_rfl) (by kernel_rfl) (by kernel_rfl) (fun _ _ _ h => h) (Or.inl ⟨by kernel_rfl, ?_⟩) ?_
                rotate_left 1
                · intro w
                  go_simp
                  try with_reducible rfl
                try simp only [Act.put, List.getElem_toArray, List.getElem_cons_zero, List.getElem_cons_succ, List.setIfInBounds_toArray, List.set_cons_zero, List.set_cons_succ, hd0]
                refine wpAny_take (i := 23) (v := ?_) rfl (by kernel_rfl) (by kernel_rfl) (by kernel_rfl) (fun _ _ _ h => h) (Or.inl ⟨by kernel_rfl, ?_⟩) ?_
                rotate_left 1
                · intro w
                  go_simp
                  try with_reducible rfl
                try simp only [Act.put, List.getElem_toArray, List.getElem_cons_zero, List.getElem_cons_succ, List.setIfInBounds_toArray, List.set_cons_zero, List.set_cons_succ, hd0]
                refine wpAny_take (i := 24) (v := ?_) rfl (by kernel_rfl) (by kernel_rfl) (by kernel_rfl) (fun _ _ _ h => h) (Or.inl ⟨by kernel_rfl, ?_⟩) ?_
                rotate_left 1
                · intro w
                  go_simp
                  try with_reducible rfl
                try simp only [Act.put, List.getElem_toArray, List.getElem_cons_zero, List.getElem_cons_succ, List.setIfInBounds_toArray, List.set_cons_zero, List.set_cons_succ, hd0]
                refine wpAny_done (by kernel_rfl) ?_ _
                have hHeld := And.intro HL6.out True.intro
                obtain ⟨⟨F', hP1, hP2, hP3, hP4, hP5⟩, _⟩ := hHeld
                have HP1 := Lib.hid hP1
                have HP2 := Lib.hid hP2
                have HP3 := Lib.hid hP3
                have HP4 := Lib.hid hP4
                clear hP1 hP2 hP3 hP4 hP5
                go_wp2_with fail
                go_roundw
                case rel => exact ⟨j + 1, F', by omega, by go_num, HP1, HP2, HP3, HP4⟩
                case measure => simp [intOf]; omega
          · obtain rfl : j = m := by omega
            obtain ⟨e1, e2, e3⟩ := HG.out
            obtain ⟨y20, y21, y22, y23⟩ := HJ3.out.cells
            have k0 : (a2.code == 0) = true := by rw [e1]; rfl
            have k2 : (a2.data == [100, 105, 114]) = true := by rw [e2]; rfl
            have k1 : (a2.n == (j : Int)) = true := by rw [e3, HM.out]; simp
            clear e1 e2 e3 y23
            go_wp2_with fail
            refine (live_calls _).mono ?_
            rintro e wl ⟨rfl, hBl⟩
            have HBl := Lib.hid (bstep (HJ1.out.below) hBl)
            clear hBl
            go_wp2_with fail
            go_ret
            exact ⟨rfl, HBl.out⟩
      · by_cases hq : a2.code = a1.code
        · have hw1 : (a1.code != 0) = true := bne_iff_ne.2 hw
          have hb' : (a2.code == a1.code) = true := beq_iff_eq.2 hq
          clear hL hw hq hm
          go_wp2_with fail
          refine (live_calls _).mono ?_
          rintro e wl ⟨rfl, hBl⟩
          have HBl := Lib.hid (show Below w.heap.size w wl from by rw [HW.out] at hBl; exact bstep HA2.out.below hBl)
          clear hBl
          go_wp2_with fail
          go_ret
          exact ⟨rfl, HBl.out⟩
        · have hw1 : (a1.code != 0) = true := bne_iff_ne.2 hw
          have hb' : (a2.code == a1.code) = false := beq_eq_false_iff_ne.2 hq
          have hbad := (hL.bad hw).resolve_left hq
          have hb1 : (a1.code == 11) = true := beq_iff_eq.2 hbad.1
          have hb2 : (a2.data == [102, 105, 108, 101]) = true := by rw [hbad.2]; rfl
          clear hL hw hq hm hbad
          go_wp2_with fail
          refine (live_calls _).mono ?_
          rintro e wl ⟨rfl, hBl⟩
          have HBl := Lib.hid (show Below w.heap.size w wl from by rw [HW.out] at hBl; exact bstep HA2.out.below hBl)
          clear hBl
          go_wp2_with fail
          go_ret
          exact ⟨rfl, HBl.out⟩

end Go.Proofs.YtaccokghjpcijaaGreatDoor
namespace Go.Proofs.YtaccokghjpcijaaGreatDoor
open Go.ChangeShapes Go.WideShapes Go.ChangeAt Go.RowKit Go.ChangeMaps Pp
set_option linter.unusedVariables false

set_option maxRecDepth 100000 in
/-- What the walk gives, for every argument. -/
theorem modelListed_contract (H : Type) (enc : TypeId × Value → H) (W : World) (base : Nat) (args : Array Value) (ds gs : List (DataW H)) (before : List MemPlace)
    (hval0 : ∀ (j : Nat) t v, Tryz.f5.params[j]? = some t → args[j]? = some v → Value.okWide Tryz.prog W .any base t v)
    (hW : DataW.Whole enc Tryz.prog Tryz.f5.params.toList Rows.modelListedSpec.vars false W args.toList ds gs before) :
    Calls Tryz.prog 5 args W fun e W' => ∃ v, e = .returned v ∧ Rows.modelListedSpec.post enc Tryz.prog Tryz.f5 false true false false W args v W' := by
  have hval : ∀ (j : Nat) t v, Tryz.f5.params[j]? = some t → args[j]? = some v → Value.okWide Tryz.prog W .any base t v := hval0
  have hW' := hW
  obtain ⟨p, q, hA0, hV, rfl, hfz, hnd⟩ := hW
  have hA : DataW.TrodAll enc Tryz.prog W 0 (fun _ => true) true Tryz.f5.params.toList args.toList ds p := hA0
  rw [Tryz.params5] at hA hval
  obtain ⟨v0, vs0, d0, ds0, p0, q0, hargs, rfl, rfl, h0, r0⟩ := trodAll_cons hA
  obtain ⟨v1, vs1, d1, ds1, p1, q1, ha1, rfl, rfl, h1, r1⟩ := trodAll_cons r0
  obtain ⟨rfl, rfl, rfl⟩ := trodAll_nil r1
  obtain rfl : args = #[v0, v1] := by cases args; simp_all
  obtain ⟨rfl, rfl⟩ := trodVars_none hV
  have k0 := h0
  have lt0 : ∀ x ∈ p0, x.block < W.heap.size := by obtain ⟨m, hm⟩ := k0; exact DataW.trod_lt m _ _ _ hm
  have k1 := h1
  have lt1 : ∀ x ∈ p1, x.block < W.heap.size := by obtain ⟨m, hm⟩ := k1; exact DataW.trod_lt m _ _ _ hm
  obtain ⟨A0, c0, l0, hc0, hC0, hl0⟩ := ops_arg (hval 0 22 v0 rfl rfl) h0
  subst hc0
  obtain ⟨⟨⟨s1⟩⟩, rfl, _, _, _⟩ := open_string Tryz.underlying9 (hval 1 9 v1 rfl rfl) h1
  clear hA0 hval0
  refine (listed_walk A0 c0 l0 hC0 hl0 s1).mono fun e W' ⟨he, bel⟩ => ?_
  subst he
  exact ⟨_, rfl, _, _, _, [], _, [], hW', trodAll_mk1 (shut_bool Tryz.underlying4 _), (trodAll_cons_mk (Below.trod laidOut (by kernel_rfl) (of_decide_eq_true (by kernel_rfl)) k0 bel lt0) (trodAll_cons_mk (Below.trod laidOut (by kernel_rfl) (of_decide_eq_true (by kernel_rfl)) k1 bel lt1) trodAll_mk0)), rfl, bel.frame _, fun h => by cases h⟩

theorem modelListed_reads (os : Os) {H : Type} (enc : TypeId × Value → H) : ∃ places, DataW.whole enc Tryz.prog ((World.laidAll Tryz.prog os Rows.modelListedRow.laid).forCall (fun _ _ => 0) ⟨#[], #[.slice none 0 0, .string ⟨#[]⟩], []⟩).memory Tryz.f5.params.toList Rows.modelListedSpec.vars false (#[.slice none 0 0, .string ⟨#[]⟩] : Array Value).toList 8 = some ([.nil, .lit (.string [])], [], places) :=
  ⟨[], by kernel_rfl⟩
theorem modelListed_met (os : Os) : laidMetH Tryz.prog Rows.modelListedRow.laid ((World.laidAll Tryz.prog os Rows.modelListedRow.laid).forCall (fun _ _ => 0) ⟨#[], #[.slice none 0 0, .string ⟨#[]⟩], []⟩).memory := by
  rw [MakeChecks.laidMetH_plain _ _ _ (by kernel_rfl)]
  exact laidMet_laidAll _ (by kernel_rfl) (by kernel_rfl)

set_option maxRecDepth 100000 in
theorem modelListed_lifted (os : Os) (started : os.Started) (H : Type) (enc : TypeId × Value → H) (F : Stop.Interp) :
    ReturnsInHanded {} Tryz.checked os 5 .any ((OpenSpec.ofChange Rows.modelListedSpec).preRow enc Tryz.prog Tryz.f5 Rows.modelListedRow.domain false Rows.modelListedRow.laid) (((OpenSpec.ofChange Rows.modelListedSpec).at F).post enc Tryz.prog Tryz.f5 false true false false) := by
  obtain ⟨places, hx⟩ := modelListed_reads os enc
  refine returnsInHanded_of_row (C := Tryz.checked) (s := OpenSpec.ofChange Rows.modelListedSpec) own started (by kernel_rfl) Tryz.func5
    (witness_row_at (enc := enc) (C := Tryz.checked) false (World.laidAll Tryz.prog os Rows.modelListedRow.laid) #[.slice none 0 0, .string ⟨#[]⟩] (World.laidAll_os _ _ _) (by kernel_rfl) (by kernel_rfl) (by kernel_rfl)
      (OpenSpec.preRow_of_cond 8 hx (by kernel_rfl) (fun k hk => by cases hk) (by kernel_rfl) (modelListed_met os))) ?_
  intro W base args ds gs before hval hW _ hcond _ hL _ _
  exact modelListed_contract H enc W base args ds gs before hval hW

theorem modelListed_said : Rows.ModelListedSaid :=
  OpenClaim.holds_of_cond 5 Tryz.f5 rfl rfl rfl rfl rfl rfl rfl ⟨rfl, rfl, rfl, rfl, rfl⟩ rfl rfl rfl rfl rfl (by kernel_rfl) Tryz.func5 (by kernel_rfl)
    (of_decide_eq_true (by kernel_rfl)) (by unfold Func.isWrapper; first | (rw [if_pos (by decide +kernel)]; kernel_rfl) | (rw [if_neg (by decide +kernel)]; exact ⟨rfl, rfl⟩))
    (fun os started H enc _ F => by rw [OpenClaim.pre_eq_preRow]; exact modelListed_lifted os started H enc F)

theorem modelListed_plain (f : FuncId) (fn : Func) (hf : Tryz.pinned.checked.prog.funcNamed "permafrost/permafrostlaw17.ModelListed" = some f) (hfn : Tryz.pinned.checked.prog.funcs[f]? = some fn) :
    false = Tryz.pinned.checked.prog.looks [] ∧ ∀ (j : Nat) t, fn.params[j]? = some t → Tryz.pinned.checked.prog.wantsStandIn t = false := by
  obtain rfl : f = 5 := Option.some.inj ((show Tryz.prog.funcNamed "permafrost/permafrostlaw17.ModelListed" = some 5 by kernel_rfl).symm.trans hf) |>.symm
  obtain rfl : fn = Tryz.f5 := (Option.some.inj (Tryz.func5.symm.trans hfn)).symm
  refine ⟨by kernel_rfl, fun j t ht => ?_⟩
  rw [Tryz.params5] at ht
  have hm : t ∈ [22, 9] := by simpa using Array.mem_of_getElem? ht
  have hall : ([22, 9].all fun u => !Tryz.prog.wantsStandIn u) = true := by kernel_rfl
  exact (show Tryz.prog.wantsStandIn t = false by simpa using List.all_eq_true.1 hall t hm)

theorem modelListed_card : Rows.ModelListedCardSaid :=
  Claim7.holds_tied_plain_at .later [] _ _ _ _ modelListed_said (fun _ h => by cases h) (by kernel_rfl) (fun _ h => by cases h) modelListed_row_tie rfl ⟨rfl, rfl⟩ (by kernel_rfl) rfl modelListed_plain (by kernel_rfl)
#print axioms modelListed_card
end Go.Proofs.YtaccokghjpcijaaGreatDoor
