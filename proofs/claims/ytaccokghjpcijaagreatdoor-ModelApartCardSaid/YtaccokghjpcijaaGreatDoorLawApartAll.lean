/-
  What is done below one directory is of no moment below another one, but by links: whatever the script (of more than 30 ops, or of longer ones, nothing is asked but the document's examples). The listed tables stand as the library's text lays them (tied).
-/
import Derived.Test.YtaccokghjpcijaaGreatDoorMH
import Derived.Deep.QuietTactic
import Derived.BigQuiet
import Derived.BigRegion
import Derived.RegionTactic
import Derived.Deep.RegionWith
set_option linter.unusedVariables false
set_option linter.unusedSimpArgs false
namespace Go.Proofs.YtaccokghjpcijaaGreatDoor
open Go Go.RowKit Pp

/-! #### what stands apart stays -/
def keptN : Str := [107, 101, 112, 116]
def fN : Str := [102]
def staysB : Str := [115, 116, 97, 121, 115]
/-- A directory, kept, with one file that nobody else has. -/
structure Apart (g : St) (i x : Nat) : Prop where
  up : look (entsOf g 0) keptN = some i
  dir : isDir g i = true
  ents : entsOf g i = [(fN, x)]
  file : isDir g x = false
  bytes : (g.node x).bytes = staysB
  only : ∀ d p, p ∈ entsOf g d → p.2 = x → d = i
def Away (ns : List Str) : Prop := ns.head? ≠ some keptN
/-- Does the path keep away from it? -/
def awayP (s : Str) : Prop := ∀ ns, split s = some ns → Away ns
theorem Away.init {ns : List Str} {n : Str} (h : Away (ns ++ [n])) : Away ns := by
  cases ns with
  | nil => intro e; cases e
  | cons a l => intro e; exact h e
theorem Apart.goes {g : St} {i x : Nat} (h : Apart g i x) : go g 0 [keptN] = some i := by rw [go_cons, h.up]; rfl
theorem Apart.setB {g : St} {i x : Nat} (h : Apart g i x) {y : Nat} {s : Str} (hy : y ≠ x) : Apart (setB g y s) i x :=
  ⟨by rw [setB_entsOf]; exact h.up, by rw [setB_isDir]; exact h.dir, by rw [setB_entsOf]; exact h.ents, by rw [setB_isDir]; exact h.file, by rw [setB_bytes, if_neg (Ne.symm hy)]; exact h.bytes, fun d p hp hpx => by rw [setB_entsOf] at hp; exact h.only d p hp hpx⟩
section
variable {g : St} {i x : Nat} (hI : Inv g) (h : Apart g i x)
include hI h
theorem Apart.path {ns : List Str} (hg : go g 0 ns = some i) : ns = [keptN] := hI.same_path hg (h.goes) h.dir
theorem Apart.away_dir {ns : List Str} (ha : Away ns) {d : Nat} (hg : go g 0 ns = some d) : d ≠ i := by
  rintro rfl
  have := h.path hI hg
  subst this
  exact ha rfl
theorem Apart.x0 : x ≠ 0 := fun e => by have := h.file; rw [e, hI.dir0] at this; cases this
theorem Apart.i0 : i ≠ 0 := (hI.ent 0 _ (look_mem h.up)).1
theorem Apart.away_file {ns : List Str} (ha : Away ns) {y : Nat} (hg : go g 0 ns = some y) : y ≠ x := by
  rintro rfl
  rcases List.eq_nil_or_concat ns with rfl | ⟨ms, m, rfl⟩
  · rw [go_nil] at hg
    exact h.x0 hI (by injection hg with e; exact e.symm)
  · rw [List.concat_eq_append] at hg ha
    obtain ⟨d, h1, h2⟩ := snoc_some hg
    have := h.only d _ (look_mem h2) rfl
    subst this
    exact h.away_dir hI ha.init h1 rfl
theorem Apart.lt : i < g.next ∧ x < g.next := ⟨(hI.ent 0 _ (look_mem h.up)).2.1, (hI.ent i (fN, x) (by rw [h.ents]; exact List.mem_singleton.2 rfl)).2.1⟩
theorem Apart.layed {ns : List Str} {n : Str} {d y : Nat} (ha : Away (ns ++ [n])) (hg : go g 0 ns = some d) (hd : isDir g d = true) (hl : look (entsOf g d) n = none) (hy : y ≠ x) : Apart (addLink (addEnt g d n y) y 1) i x := by
  have hdi := h.away_dir hI ha.init hg
  refine ⟨?_, by rw [isDir_addLink, isDir_addEnt hd]; exact h.dir, by rw [ents_layed, if_neg (Ne.symm hdi)]; exact h.ents, by rw [isDir_addLink, isDir_addEnt hd]; exact h.file, by rw [bytes_addLink, bytes_addEnt]; exact h.bytes, fun e p hp hpx => ?_⟩
  · rw [ents_layed]
    split
    · rename_i h0
      rw [← h0, look_snoc, h.up]
    · exact h.up
  · rw [ents_layed] at hp
    split at hp
    · rename_i h0
      subst h0
      rcases List.mem_append.1 hp with hp | hp
      · exact h.only _ p hp hpx
      · have : p = (n, y) := by simpa using hp
        subst this
        exact absurd hpx hy
    · exact h.only e p hp hpx
theorem Apart.fresh {n : Node} (hn : n.ents = none ∨ n.ents = some []) : Apart (fresh g n) i x := by
  obtain ⟨h1, h2⟩ := h.lt hI
  refine ⟨by rw [ents_fresh hI hn]; exact h.up, by rw [isDir_fresh (by omega)]; exact h.dir, by rw [ents_fresh hI hn]; exact h.ents, by rw [isDir_fresh (by omega)]; exact h.file, ?_, fun d p hp hpx => by rw [ents_fresh hI hn] at hp; exact h.only d p hp hpx⟩
  unfold Go.Proofs.YtaccokghjpcijaaGreatDoor.fresh
  simp only [upd_ne _ _ (show x ≠ g.next by omega)]
  exact h.bytes
theorem Apart.cutted {ns : List Str} {n : Str} {d y : Nat} {k : Int} (ha : Away (ns ++ [n])) (hg : go g 0 ns = some d) (hd : isDir g d = true) : Apart (delEnt (addLink g y k) d n) i x := by
  have hdi := h.away_dir hI ha.init hg
  have hd' : isDir (addLink g y k) d = true := by rw [isDir_addLink]; exact hd
  refine ⟨?_, by rw [isDir_delEnt hd', isDir_addLink]; exact h.dir, by rw [ents_delEnt, if_neg (Ne.symm hdi), ents_addLink]; exact h.ents, by rw [isDir_delEnt hd', isDir_addLink]; exact h.file, by rw [bytes_delEnt, bytes_addLink]; exact h.bytes, fun e p hp hpx => ?_⟩
  · rw [ents_delEnt, ents_addLink, ents_addLink]
    split
    · rename_i h0
      rw [← h0, look_del]
      have hn : keptN ≠ n := by
        have : ns = [] := hI.same_path (h0 ▸ hg) (go_nil (g := g) (i := 0)) hI.dir0
        subst this
        intro e
        exact ha (by rw [e]; rfl)
      rw [if_neg hn]
      exact h.up
    · exact h.up
  · rw [ents_delEnt, ents_addLink, ents_addLink] at hp
    split at hp
    · rename_i h0
      subst h0
      exact h.only _ p (List.mem_filter.1 hp).1 hpx
    · exact h.only e p hp hpx
theorem Apart.moved {g' : St} {k l : List Str} {y d1 d2 : Nat} {n1 n2 : Str} (m : Moved g g' k l y d1 d2 n1 n2) (hk : Away (k ++ [n1])) (hl : Away (l ++ [n2])) : Apart g' i x := by
  have e1 := h.away_dir hI hk.init m.p1
  have e2 := h.away_dir hI hl.init m.p2
  have ey : y ≠ x := h.away_file hI hk (by rw [go_snoc, m.p1]; exact m.l1)
  refine ⟨?_, by rw [m.dirs]; exact h.dir, by rw [m.ents, if_neg (Ne.symm e1), if_neg (Ne.symm e2)]; exact h.ents, by rw [m.dirs]; exact h.file, by rw [m.bytes]; exact h.bytes, fun e p hp hpx => ?_⟩
  · rw [m.ents]
    have hu : look (if 0 = d2 then entsOf g 0 ++ [(n2, y)] else entsOf g 0) keptN = some i := by
      split
      · rw [look_snoc, h.up]
      · exact h.up
    split
    · rename_i h0
      rw [look_del]
      have hn : keptN ≠ n1 := by
        have : k = [] := hI.same_path (h0 ▸ m.p1) (go_nil (g := g) (i := 0)) hI.dir0
        subst this
        intro e
        exact hk (by rw [e]; rfl)
      rw [if_neg hn]
      exact hu
    · exact hu
  · rcases (m.sub hp).1 with h1 | ⟨_, h1⟩
    · exact h.only e p h1 hpx
    · rw [h1] at hpx; exact absurd hpx ey
theorem Apart.made {s : Str} (ha : awayP s) {n : Node} (hn : n.ents = none ∨ n.ents = some []) (hb : n.bytes.length ≤ 16384) : Apart (made g s n).1 i x := by
  rcases made_cases hI s hn with ⟨c, _, _, e⟩ | ⟨d, nm, hf, e⟩
  · rw [e]; exact h
  · rw [e]
    rw [← free_fresh hI hn] at hf
    obtain ⟨ns, hs, hg, hd, hl, _⟩ := free_spec hf
    have hlt := h.lt hI
    exact (h.fresh hI hn).layed (hI.fresh hn hb) (ha _ hs) hg hd hl (by omega)
theorem Apart.link {o : Ask} (ha : awayP o.path) (hb : awayP o.dst) : Apart (linkS g o).1 i x := by
  unfold linkS
  cases hk : kind g o.path false with
  | error e => exact h
  | ok y =>
    obtain ⟨ns, hs, hg⟩ := leads_go.1 (kind_ok hk).1
    have hy := h.away_file hI (ha ns hs) hg
    simp only
    unfold lay
    cases hf : free g o.dst with
    | error e => exact h
    | ok p =>
      obtain ⟨d, n⟩ := p
      obtain ⟨ms, hs2, hg2, hd, hl, _⟩ := free_spec hf
      exact h.layed hI (hb _ hs2) hg2 hd hl hy
theorem Apart.cut {s : Str} {y : Nat} (ha : awayP s) (hl : leads g s = .ok y) (hs : s ≠ [47]) : Apart (cut g s) i x := by
  obtain ⟨p, n, ns, d, hp, hsp, hlp, hg, hd, hlk, _⟩ := leads_last hI hl hs
  rw [cut_eq hp hlp hlk]
  exact h.cutted hI (ha _ hsp) hg hd
theorem Apart.unlink {o : Ask} (ha : awayP o.path) : Apart (unlinkS g o).1 i x := by
  unfold unlinkS
  cases hk : kind g o.path false with
  | error e => exact h
  | ok y => exact h.cut hI ha (kind_ok hk).1 (kind_root hI hk)
theorem Apart.rmdir {o : Ask} (ha : awayP o.path) : Apart (rmdirS g o).1 i x := by
  unfold rmdirS
  by_cases hr : o.path = [47]
  · rw [if_pos hr]; exact h
  · rw [if_neg hr]
    cases hk : kind g o.path true with
    | error e => exact h
    | ok y =>
      simp only
      by_cases he : 0 < (entsOf g y).length
      · rw [if_pos he]; exact h
      · rw [if_neg he]; exact h.cut hI ha (kind_ok hk).1 hr
theorem Apart.rename {o : Ask} (ha : awayP o.path) (hb : awayP o.dst) : Apart (renameS g o).1 i x := by
  rcases rename_cases hI o with ⟨c, _, e⟩ | ⟨g', k, l, y, d1, d2, n1, n2, e, h1, h2, _, _, m⟩
  · rw [e]; exact h
  · rw [e]; exact h.moved hI m (ha _ h1) (hb _ h2)
theorem Apart.kind_ne {s : Str} {y : Nat} {b : Bool} (ha : awayP s) (hk : kind g s b = .ok y) : y ≠ x := by
  obtain ⟨ns, hs, hg⟩ := leads_go.1 (kind_ok hk).1
  exact h.away_file hI (ha ns hs) hg
theorem Apart.write {o : Ask} (ha : awayP o.path) : Apart (writeS g o).1 i x := by
  rcases write_cases (g := g) o with ⟨c, e, _⟩ | ⟨y, hk, _, _, e⟩
  · rw [e]; exact h
  · rw [e]
    simp only
    split
    · exact h
    · exact h.setB (h.kind_ne hI ha hk)
theorem Apart.trunc {o : Ask} (ha : awayP o.path) : Apart (truncS g o).1 i x := by
  unfold truncS
  cases hk : kind g o.path false with
  | error c => exact h
  | ok y =>
    simp only
    split
    · exact h
    split
    · exact h
    · exact h.setB (h.kind_ne hI ha hk)
theorem Apart.stepped {o : Ask} (ha : awayP o.path) (hb : awayP o.dst) : Apart (step g o).1 i x := by
  unfold Go.Proofs.YtaccokghjpcijaaGreatDoor.step
  split
  · exact h.made hI ha (.inl rfl) (by simp)
  split
  · exact h.made hI ha (.inr rfl) (by simp)
  split
  · exact h.link hI ha hb
  split
  · exact h.unlink hI ha
  split
  · exact h.rmdir hI ha
  split
  · exact h.rename hI ha hb
  split
  · rw [read_same]; exact h
  split
  · exact h.write hI ha
  split
  · exact h.trunc hI ha
  split
  · rw [stat_same]; exact h
  split
  · rw [list_same]; exact h
  · exact h
end
theorem away_nil {s : Str} (h : namesV s = []) : awayP s := fun ns e => by
  unfold namesV at h
  rw [e] at h
  obtain rfl : ns = [] := h
  intro e; cases e
theorem away_cons {s y : Str} {t : List Str} (h : namesV s = y :: t) (hy : y ≠ [107, 101, 112, 116]) : awayP s := fun ns e => by
  unfold namesV at h
  rw [e] at h
  obtain rfl : ns = y :: t := h
  intro e'
  exact hy (by injection e')
/-! the start -/
def keptP : Str := [47, 107, 101, 112, 116]
def keptF : Str := [47, 107, 101, 112, 116, 47, 102]
def apart0 : List Ask := [⟨1, keptP, [], 0, 0, []⟩, ⟨0, keptF, [], 0, 0, []⟩, ⟨7, keptF, [], 0, 0, staysB⟩]
theorem apart_start : Apart (run newS apart0) 1 2 := by
  have hI : Inv (run newS apart0) := run_inv new_inv _
  have e0 : entsOf (run newS apart0) 0 = [(keptN, 1)] := by decide +kernel
  have e1 : entsOf (run newS apart0) 1 = [(fN, 2)] := by decide +kernel
  have e2 : entsOf (run newS apart0) 2 = [] := by decide +kernel
  have en : (run newS apart0).next = 3 := by decide +kernel
  refine ⟨by rw [e0]; decide, by decide +kernel, e1, by decide +kernel, by decide +kernel, fun d p hp hpx => ?_⟩
  by_cases h3 : 3 ≤ d
  · rw [beyond_ents hI (by omega)] at hp; cases hp
  · have hd : d = 0 ∨ d = 1 ∨ d = 2 := by omega
    rcases hd with rfl | rfl | rfl
    · rw [e0] at hp
      have : p = (keptN, 1) := by simpa using hp
      rw [this] at hpx; cases hpx
    · rfl
    · rw [e2] at hp; cases hp
/-! the end -/
theorem Apart.reads {g : St} {i x : Nat} (h : Apart g i x) (hI : Inv g) : step g ⟨6, keptF, [], 0, 9, []⟩ = (g, ⟨0, 5, staysB, []⟩) := by
  have hs : split keptF = some [keptN, fN] := by decide +kernel
  have hl : leads g keptF = .ok x := leads_go.2 ⟨_, hs, by rw [go_cons, h.up]; show go g i [fN] = _; rw [go_cons, h.ents]; rfl⟩
  have hk : kind g keptF false = .ok x := by
    unfold kind
    rw [hl]
    simp [h.file]
  rw [step_read rfl, read_ok hk (by decide) (by decide), h.bytes]
  rfl
theorem Apart.lists {g : St} {i x : Nat} (h : Apart g i x) (hI : Inv g) : step g ⟨10, keptP, [], 0, 0, []⟩ = (g, ⟨0, 0, [], [fN]⟩) := by
  have hs : split keptP = some [keptN] := by decide +kernel
  have hl : leads g keptP = .ok i := leads_go.2 ⟨_, hs, h.goes⟩
  have hk : kind g keptP true = .ok i := by
    unfold kind
    rw [hl]
    simp [h.dir]
  rw [step_list rfl]
  unfold listS
  rw [hk]
  simp only [h.ents]
  simp [sortS]
end Go.Proofs.YtaccokghjpcijaaGreatDoor
set_option linter.unusedVariables false
set_option linter.unusedSimpArgs false
namespace Go.Proofs.YtaccokghjpcijaaGreatDoor
open Go Go.RowKit Pp Go.Proofs.YtaccokghjpcijaaGreatDoorW.PrintWords

theorem names_first {w : World} {v : Value} {ns : List Str} (h : Strs w v ns) : ∃ A c, v = .slice A ns.length c ∧ ns.length ≤ c ∧ (ns = [] ∨ ∃ y t bk o, ns = y :: t ∧ A = some ⟨bk, o, none⟩ ∧ bk < w.heap.size ∧ w.cell? ⟨bk, o, none⟩ = some (.string (mk y))) := by
  obtain ⟨A, c, rfl, hc, hC⟩ := h.kd
  refine ⟨A, c, rfl, hc, ?_⟩
  cases ns with
  | nil => exact .inl rfl
  | cons y t =>
    obtain ⟨bk, o, c', e, _, hlt, hcell⟩ := h.cells (by simp)
    simp only [Value.slice.injEq] at e
    obtain ⟨rfl, _, rfl⟩ := e
    exact .inr ⟨y, t, bk, o, rfl, rfl, hlt, hcell 0 y rfl⟩
theorem names_at {W : World} {A : Option Addr} {n c : Nat} {ns : List Str} (h : Strs W (.slice A n c) ns) (hn : 0 < ns.length) : ∃ ad, A = some ad ∧ ∀ (i : Nat) (y : Str), ns[i]? = some y → W.cell? (ad.add i) = some (.string (mk y)) := by
  obtain ⟨A', c', e, hc, hC⟩ := h
  injection e with e1 e2 e3
  subst e1
  obtain ⟨ad, e, _⟩ := Kd.at_string hC (0 : Int) (by omega) (by omega)
  refine ⟨ad, e, fun i y hy => ?_⟩
  obtain ⟨hi, _⟩ := List.getElem?_eq_some_iff.1 hy
  obtain ⟨ad', e', hh⟩ := Kd.at_string hC (i : Int) (by omega) (by omega)
  rw [e] at e'
  injection e' with e'
  subst e'
  rw [rd_mk ns i y hy, Int.toNat_natCast] at hh
  exact hh
/-- An op that a law holds in a box. -/
theorem op6 {w : World} {b : Nat} {v0 v1 v2 v3 v4 v5 : Value} {t : TypeId} (h : w.heap[b]? = some (.cells #[v0, v1, v2, v3, v4, v5] t)) :
    w.cell? ⟨b, 0, none⟩ = some v0 ∧ w.cell? ⟨b, 1, none⟩ = some v1 ∧ w.cell? ⟨b, 2, none⟩ = some v2 ∧ w.cell? ⟨b, 3, none⟩ = some v3 ∧ w.cell? ⟨b, 4, none⟩ = some v4 ∧ w.cell? ⟨b, 5, none⟩ = some v5 :=
  ⟨heap_cell h 0 _ rfl, heap_cell h 1 _ rfl, heap_cell h 2 _ rfl, heap_cell h 3 _ rfl, heap_cell h 4 _ rfl, heap_cell h 5 _ rfl⟩
theorem block_keep {w w' : World} {b : Nat} {o : Obj} (h : w.heap[b]? = some o) (hb : Below w.heap.size w w') : w'.heap[b]? = some o := (hb.block b (some_lt h)).trans h
theorem askP_mk (f0 f3 f4 : Int) (s1 s2 s5 : Str) : askP ⟨f0, mk s1, mk s2, f3, f4, mk s5⟩ = ⟨f0, s1, s2, f3, f4, s5⟩ := by
  unfold askP
  simp only [mk_toList]
theorem take_map {l : List OpP} {P : Ask → Prop} (h : ∀ o ∈ l.map askP, P o) {k : Nat} {q : OpP} (hq : l[k]? = some q) : P (askP q) := h (askP q) (List.mem_of_getElem? (by rw [List.getElem?_map, hq]; rfl))
end Go.Proofs.YtaccokghjpcijaaGreatDoor
set_option linter.unusedVariables false
set_option linter.unusedSimpArgs false
namespace Go.Proofs.YtaccokghjpcijaaGreatDoor
open Go Go.RowKit Pp Go.Proofs.YtaccokghjpcijaaGreatDoorW.PrintWords Go.Proofs.YtaccokghjpcijaaGreatDoorW.PrintLast Go.Proofs.YtaccokghjpcijaaGreatDoorW.PrintMore
attribute [local go_sem] max2_int min2_int max_two min_two

set_option maxRecDepth 100000 in
set_option maxHeartbeats 8000000 in
theorem apart_walk {w : World} (A : Option Addr) (c : Nat) (l : List OpP) (hC : Kd.C PModelScripts.k35 w A l.length l) (hc : l.length ≤ c) :
    Calls Tryz.prog 4 #[.slice A l.length c] w fun e w' => e = .returned (.bool true) ∧ Below w.heap.size w w' := by
  have hl63 : l.length ≤ 9223372036854775807 := hC.2.1
  obtain ⟨n, hn⟩ : ∃ n, l.length = n := ⟨_, rfl⟩
  have HC := Lib.hid hC
  obtain ⟨r, hr⟩ : ∃ r, smallL (l.map askP) 30 = r := ⟨_, rfl⟩
  have hSm := fun W hW => small_calls A c l 30 r W (Kd.C_below hC hW) hc hl63 hr
  rw [hn] at hSm hc ⊢
  have HS := Lib.hid hSm
  have HN := Lib.hid hn
  have HR := Lib.hid hr
  clear hC hSm hn hl63 hr
  go_enter Tryz.func4, Tryz.ntmps4
  go_wp2_with fail
  have hb0 : Below w.heap.size w w := Below.refl _ _
  have HB0 := Lib.hid hb0
  refine (HS.out _ hb0).mono ?_
  rintro e w1 ⟨rfl, hB⟩
  have HB1 := Lib.hid (bstep HB0.out hB)
  clear hB hb0
  cases r with
  | false =>
    go_wp2_with fail
    refine (live_calls _).mono ?_
    rintro e wl ⟨rfl, hBl⟩
    have HBl := Lib.hid (bstep (HB1.out) hBl)
    clear hBl
    go_wp2_with fail
    go_ret
    exact ⟨rfl, HBl.out⟩
  | true =>
  have HSM := Lib.hid (small_mem HR.out)
  have hn30 : n ≤ 30 := by have h := HSM.out.1; rw [List.length_map, HN.out] at h; omega
  go_wp2_with fail
  refine (new_ts _).mono ?_
  rintro e w2 ⟨tb, F0, rfl, hT, hB, hF0⟩
  have HA0 : Hid (At w 0 w2 F0 tb newS) := Lib.hid ⟨hT, bstep HB1.out hB, fun b hb => Nat.le_trans HB1.out.size (hF0 b hb)⟩
  clear hT hB hF0
  go_wp2_with fail
  refine (do_ts HA0.out.ts (by decide) ⟨1, keptP, [], 0, 0, []⟩ (by decide) (by decide) (by decide)).mono ?_
  rintro e w1 ⟨F1, A1, c1, rfl, hT, hX, hS, hA⟩
  have HA1 := Lib.hid (HA0.out.step hT hX)
  clear hT hX hS hA
  unfold ansV
  go_wp2_with fail
  refine (do_ts HA1.out.ts (by decide) ⟨0, keptF, [], 0, 0, []⟩ (by decide) (by decide) (by decide)).mono ?_
  rintro e w2 ⟨F2, A2, c2, rfl, hT, hX, hS, hA⟩
  have HA2 := Lib.hid (HA1.out.step hT hX)
  clear hT hX hS hA
  unfold ansV
  go_wp2_with fail
  refine (do_ts HA2.out.ts (by decide) ⟨7, keptF, [], 0, 0, staysB⟩ (by decide) (by decide) (by decide)).mono ?_
  rintro e w3 ⟨F3, A3, c3, rfl, hT, hX, hS, hA⟩
  have HA3 := Lib.hid (HA2.out.step hT hX)
  clear hT hX hS hA
  unfold ansV
  go_wp2_with fail
  obtain ⟨g3, hg3⟩ : ∃ g, run newS apart0 = g := ⟨_, rfl⟩
  have hst := apart_start
  have hA3 : At w 3 w3 F3 tb (run newS apart0) := HA3.out
  rw [hg3] at hst hA3
  have HS3 := Lib.hid hA3
  have HP3 : Hid (∃ i x, Apart g3 i x) := Lib.hid ⟨1, 2, hst⟩
  clear HA1 HA2 HA3 HA0 hg3 hst hA3
  go_loopw [4] (fun i W => ∃ (k : Nat) (F : Nat → Prop) (g : St), k ≤ n ∧ i = .int .i64 k ∧ Hid (At w (3 + k) W F tb g) ∧ Hid (∃ i x, Apart g i x)) (fun i _ => n - (intOf i).toNat)
  case atStart => exact ⟨0, _, _, Nat.zero_le _, rfl, HS3, HP3⟩
  case round =>
    obtain ⟨k, F, g, hk, rfl, HA, HP⟩ := hrel
    by_cases hlt : k < n
    · obtain ⟨q, hq⟩ : ∃ q, l[k]? = some q := ⟨_, List.getElem?_eq_getElem (by have := HN.out; omega)⟩
      have hsq := take_map HSM.out.2 hq
      have hop := op_cells (Kd.C_below HC.out HA.out.below) hq
      obtain ⟨f0, f1, f2, f3, f4, f5⟩ := q
      obtain ⟨s1, rfl⟩ : ∃ s, f1 = mk s := ⟨_, (mk_data _).symm⟩
      obtain ⟨s2, rfl⟩ : ∃ s, f2 = mk s := ⟨_, (mk_data _).symm⟩
      obtain ⟨s5, rfl⟩ : ∃ s, f5 = mk s := ⟨_, (mk_data _).symm⟩
      rw [askP_mk] at hsq
      simp only at hsq
      obtain ⟨q1, q2, q5⟩ := hsq
      obtain ⟨ad, had, x0, x1, x2, x3, x4, x5⟩ := hop
      simp only at x0 x1 x2 x3 x4 x5
      have z0 : (0 : Int) ≤ (k : Int) := by omega
      have z1 : (k : Int) < (n : Int) := by omega
      have z2 : (k : Int) < (c : Int) := by omega
      subst had
      clear hq
      go_wp2_with fail
      obtain ⟨b, hb⟩ : ∃ b, wr.heap.size = b := ⟨_, rfl⟩
      obtain ⟨wA, hwA⟩ : ∃ w, wr.alloc (.cells #[.int .i64 f0, .string (mk s1), .string (mk s2), .int .i64 f3, .int .i64 f4, .string (mk s5)] 35) = w := ⟨_, rfl⟩
      have hbx : wA.heap[b]? = some (.cells #[.int .i64 f0, .string (mk s1), .string (mk s2), .int .i64 f3, .int .i64 f4, .string (mk s5)] 35) := by rw [← hwA, ← hb]; exact heap_alloc_new _ _
      have HBA := Lib.hid (show Below wr.heap.size wr wA by rw [← hwA]; exact balloc (Below.refl _ _))
      have HBX := Lib.hid hbx
      rw [hwA, hb]
      have HPS := Lib.hid (fun (W : World) (h : TS (3 + k) W F tb g) => do_ts h (by omega) ⟨f0, s1, s2, f3, f4, s5⟩ (by show s1.length ≤ _; omega) (by show s2.length ≤ _; omega) (by show s5.length ≤ _; omega))
      clear hwA hb hbx x0 x1 x2 x3 x4 x5
      have x1 := (op6 HBX.out).2.1
      refine (refsplit_calls s1 (by omega) _).mono ?_
      rintro e wB ⟨v1, rfl, hS1, hB⟩
      obtain ⟨A1, c1, rfl, hc1, hf1⟩ := names_first hS1
      have HF1 := Lib.hid hf1
      obtain ⟨m1, hm1⟩ : ∃ m, (namesV s1).length = m := ⟨_, rfl⟩
      rw [hm1] at hc1 ⊢
      have HM1 := Lib.hid hm1
      have HBB := Lib.hid (bstep HBA.out hB)
      have HBX1 := Lib.hid (block_keep HBX.out hB)
      clear hS1 hB hf1 hm1 x1
      have x2 := (op6 HBX1.out).2.2.1
      go_wp2_with fail
      refine (refsplit_calls s2 (by omega) _).mono ?_
      rintro e wC ⟨v2, rfl, hS2, hB⟩
      obtain ⟨A2, c2, rfl, hc2, hf2⟩ := names_first hS2
      have HF2 := Lib.hid hf2
      obtain ⟨m2, hm2⟩ : ∃ m, (namesV s2).length = m := ⟨_, rfl⟩
      rw [hm2] at hc2 ⊢
      have HM2 := Lib.hid hm2
      have HAC := Lib.hid (HA.out.more (bstep HBB.out hB))
      have HBX2 := Lib.hid (block_keep HBX1.out hB)
      have HB2 := Lib.hid hB
      have HD := Lib.hid (HPS.out _ HAC.out.ts)
      clear hS2 hB hf2 hm2 x2
      rcases HF1.out with hN | ⟨y1a, t1a, bk1, o1, hN, hA1, hlt1, hcell1⟩
      · have HW1 : Hid (awayP s1) := Lib.hid (away_nil hN)
        obtain rfl : m1 = 0 := by rw [← HM1.out, hN]; rfl
        clear hN
        rcases HF2.out with hN | ⟨y2a, t2a, bk2, o2, hN, hA2, hlt2, hcell2⟩
        · have HW2 : Hid (awayP s2) := Lib.hid (away_nil hN)
          obtain rfl : m2 = 0 := by rw [← HM2.out, hN]; rfl
          clear hN
          obtain ⟨y0, y1, y2, y3, y4, y5⟩ := op6 HBX2.out
          clear y1 y2
          have y1 := (op6 HBX2.out).2.1
          have y2 := (op6 HBX2.out).2.2.1
          go_wp2_with fail
          refine HD.out.mono ?_
          rintro e wD ⟨F', A', c', rfl, hT, hX, hS, hA'⟩
          have HA1 := Lib.hid (HAC.out.step hT hX)
          clear hT hX hS hA' HD y0 y1 y2 y3 y4 y5
          unfold ansV
          go_wp2_with fail
          go_roundw
          case rel => exact ⟨k + 1, F', (step g ⟨f0, s1, s2, f3, f4, s5⟩).1, by omega, by go_num, Lib.hid HA1.out, Lib.hid (by obtain ⟨i, x, h⟩ := HP.out; exact ⟨i, x, h.stepped HA.out.ts.fine.good.inv (fun ns e => HW1.out ns e) (fun ns e => HW2.out ns e)⟩)⟩
          case measure => simp [intOf]; omega
        · have zp2 : 0 < (m2 : Int) := by have := HM2.out; rw [hN] at this; simp at this; omega
          have zc2 : 0 < (c2 : Int) := by omega
          subst hA2
          have kc2 : wC.cell? ⟨bk2, o2, none⟩ = some (.string (mk y2a)) := hcell2
          have tl2 := mk_list y2a
          clear hcell2
          by_cases hk2 : y2a = [107, 101, 112, 116]
          · have kb2 : (y2a == [107, 101, 112, 116]) = true := by rw [hk2]; rfl
            clear hN hk2
            go_wp2_with fail
            refine (live_calls _).mono ?_
            rintro e wl ⟨rfl, hBl⟩
            have HBl := Lib.hid (bstep (HAC.out.below) hBl)
            clear hBl
            go_wp2_with fail
            go_ret
            exact ⟨rfl, HBl.out⟩
          · have kb2 : (y2a == [107, 101, 112, 116]) = false := beq_eq_false_iff_ne.2 hk2
            have HW2 : Hid (awayP s2) := Lib.hid (away_cons hN hk2)
            clear hN hk2
            obtain ⟨y0, y1, y2, y3, y4, y5⟩ := op6 HBX2.out
            clear y1 y2
            have y1 := (op6 HBX2.out).2.1
            have y2 := (op6 HBX2.out).2.2.1
            go_wp2_with fail
            refine HD.out.mono ?_
            rintro e wD ⟨F', A', c', rfl, hT, hX, hS, hA'⟩
            have HA1 := Lib.hid (HAC.out.step hT hX)
            clear hT hX hS hA' HD y0 y1 y2 y3 y4 y5
            unfold ansV
            go_wp2_with fail
            go_roundw
            case rel => exact ⟨k + 1, F', (step g ⟨f0, s1, s2, f3, f4, s5⟩).1, by omega, by go_num, Lib.hid HA1.out, Lib.hid (by obtain ⟨i, x, h⟩ := HP.out; exact ⟨i, x, h.stepped HA.out.ts.fine.good.inv (fun ns e => HW1.out ns e) (fun ns e => HW2.out ns e)⟩)⟩
            case measure => simp [intOf]; omega
      · have zp1 : 0 < (m1 : Int) := by have := HM1.out; rw [hN] at this; simp at this; omega
        have zc1 : 0 < (c1 : Int) := by omega
        subst hA1
        have kc1 : wC.cell? ⟨bk1, o1, none⟩ = some (.string (mk y1a)) := pw_cell_below HB2.out hcell1
        have tl1 := mk_list y1a
        clear hcell1
        by_cases hk1 : y1a = [107, 101, 112, 116]
        · have kb1 : (y1a == [107, 101, 112, 116]) = true := by rw [hk1]; rfl
          clear hN hk1
          go_wp2_with fail
          refine (live_calls _).mono ?_
          rintro e wl ⟨rfl, hBl⟩
          have HBl := Lib.hid (bstep (HAC.out.below) hBl)
          clear hBl
          go_wp2_with fail
          go_ret
          exact ⟨rfl, HBl.out⟩
        · have kb1 : (y1a == [107, 101, 112, 116]) = false := beq_eq_false_iff_ne.2 hk1
          have HW1 : Hid (awayP s1) := Lib.hid (away_cons hN hk1)
          clear hN hk1
          rcases HF2.out with hN | ⟨y2a, t2a, bk2, o2, hN, hA2, hlt2, hcell2⟩
          · have HW2 : Hid (awayP s2) := Lib.hid (away_nil hN)
            obtain rfl : m2 = 0 := by rw [← HM2.out, hN]; rfl
            clear hN
            obtain ⟨y0, y1, y2, y3, y4, y5⟩ := op6 HBX2.out
            clear y1 y2
            have y1 := (op6 HBX2.out).2.1
            have y2 := (op6 HBX2.out).2.2.1
            go_wp2_with fail
            refine HD.out.mono ?_
            rintro e wD ⟨F', A', c', rfl, hT, hX, hS, hA'⟩
            have HA1 := Lib.hid (HAC.out.step hT hX)
            clear hT hX hS hA' HD y0 y1 y2 y3 y4 y5
            unfold ansV
            go_wp2_with fail
            go_roundw
            case rel => exact ⟨k + 1, F', (step g ⟨f0, s1, s2, f3, f4, s5⟩).1, by omega, by go_num, Lib.hid HA1.out, Lib.hid (by obtain ⟨i, x, h⟩ := HP.out; exact ⟨i, x, h.stepped HA.out.ts.fine.good.inv (fun ns e => HW1.out ns e) (fun ns e => HW2.out ns e)⟩)⟩
            case measure => simp [intOf]; omega
          · have zp2 : 0 < (m2 : Int) := by have := HM2.out; rw [hN] at this; simp at this; omega
            have zc2 : 0 < (c2 : Int) := by omega
            subst hA2
            have kc2 : wC.cell? ⟨bk2, o2, none⟩ = some (.string (mk y2a)) := hcell2
            have tl2 := mk_list y2a
            clear hcell2
            by_cases hk2 : y2a = [107, 101, 112, 116]
            · have kb2 : (y2a == [107, 101, 112, 116]) = true := by rw [hk2]; rfl
              clear hN hk2
              go_wp2_with fail
              refine (live_calls _).mono ?_
              rintro e wl ⟨rfl, hBl⟩
              have HBl := Lib.hid (bstep (HAC.out.below) hBl)
              clear hBl
              go_wp2_with fail
              go_ret
              exact ⟨rfl, HBl.out⟩
            · have kb2 : (y2a == [107, 101, 112, 116]) = false := beq_eq_false_iff_ne.2 hk2
              have HW2 : Hid (awayP s2) := Lib.hid (away_cons hN hk2)
              clear hN hk2
              obtain ⟨y0, y1, y2, y3, y4, y5⟩ := op6 HBX2.out
              clear y1 y2
              have y1 := (op6 HBX2.out).2.1
              have y2 := (op6 HBX2.out).2.2.1
              go_wp2_with fail
              refine HD.out.mono ?_
              rintro e wD ⟨F', A', c', rfl, hT, hX, hS, hA'⟩
              have HA1 := Lib.hid (HAC.out.step hT hX)
              clear hT hX hS hA' HD y0 y1 y2 y3 y4 y5
              unfold ansV
              go_wp2_with fail
              go_roundw
              case rel => exact ⟨k + 1, F', (step g ⟨f0, s1, s2, f3, f4, s5⟩).1, by omega, by go_num, Lib.hid HA1.out, Lib.hid (by obtain ⟨i, x, h⟩ := HP.out; exact ⟨i, x, h.stepped HA.out.ts.fine.good.inv (fun ns e => HW1.out ns e) (fun ns e => HW2.out ns e)⟩)⟩
              case measure => simp [intOf]; omega
    · obtain rfl : k = n := by omega
      obtain ⟨g0, rfl⟩ : ∃ x, g = x := ⟨_, rfl⟩
      have HA0 := HA
      clear HA HS3 HP3
      go_wp2_with fail
      obtain ⟨r1, hr1⟩ : ∃ r, step g ⟨6, keptF, [], 0, 9, []⟩ = r := ⟨_, rfl⟩
      obtain ⟨g1, a1⟩ := r1
      have HG1 := Lib.hid hr1
      have HD := Lib.hid (do_at HA0.out.ts (by omega) ⟨6, keptF, [], 0, 9, []⟩ (by decide) (by decide) (by decide) hr1)
      clear hr1
      refine HD.out.mono ?_
      rintro e v1 ⟨F1, A1, c1, rfl, hT, hX, hS, hA⟩
      obtain ⟨b1, hb1⟩ : ∃ b, v1.heap.size = b := ⟨_, rfl⟩
      obtain ⟨w1, hw1⟩ : ∃ w, v1.alloc (.cells #[.int .i64 a1.code, .int .i64 a1.n, .string (mk a1.data), .slice A1 a1.names.length c1] 32) = w := ⟨_, rfl⟩
      obtain ⟨hT2, hX2, hbx⟩ := boxed (a := a1) hT hX hS hA hw1
      rw [hb1] at hbx
      have HX1 := Lib.hid hX2
      have HA1 := Lib.hid (HA0.out.step hT2 hX2)
      have HBX1 := Lib.hid hbx
      have HW := Lib.hid hw1
      have HBB := Lib.hid hb1
      clear hT hX hT2 hX2 hS hA hbx hw1 hb1 HD
      unfold ansV
      go_wp2_with fail
      rw [HBB.out, HW.out]
      clear HW HBB
      obtain ⟨r2, hr2⟩ : ∃ r, step g1 ⟨10, keptP, [], 0, 0, []⟩ = r := ⟨_, rfl⟩
      obtain ⟨g2, a2⟩ := r2
      have HG2 := Lib.hid hr2
      have HD := Lib.hid (do_at HA1.out.ts (by omega) ⟨10, keptP, [], 0, 0, []⟩ (by decide) (by decide) (by decide) hr2)
      clear hr2
      refine HD.out.mono ?_
      rintro e v2 ⟨F2, A2, c2, rfl, hT, hX, hS, hA⟩
      obtain ⟨w2, hw2⟩ : ∃ w, v2.alloc (.cells #[.int .i64 a2.code, .int .i64 a2.n, .string (mk a2.data), .slice A2 a2.names.length c2] 32) = w := ⟨_, rfl⟩
      obtain ⟨hT2, hX2, hbx⟩ := boxed (a := a2) hT hX hS hA hw2
      have HA2 := Lib.hid (HA1.out.step hT2 hX2)
      have Z2 := Lib.hid hbx
      have Y1 := HBX1.out.ext (hX)
      have Z1 := Lib.hid (HBX1.out.ext (hX2))
      obtain ⟨y10, y11, y12, y13⟩ := Y1.cells
      have yl1 := some_lt Y1.at_
      have HW := Lib.hid hw2
      clear hT hX hT2 hX2 hS hA hbx hw2 HD Y1 HX1 HBX1
      unfold ansV
      have hap := HP.out
      obtain ⟨i, x, hap⟩ := hap
      have hI : Inv g := HA0.out.ts.fine.good.inv
      have e1 := HG1.out
      rw [hap.reads hI] at e1
      injection e1 with e1 e1'
      subst e1
      subst e1'
      have e2 := HG2.out
      rw [hap.lists hI] at e2
      injection e2 with e2 e2'
      subst e2
      subst e2'
      simp only at y10 y11 y12 y13
      have t1 := mk_list staysB
      have hb1 : (staysB == [115, 116, 97, 121, 115]) = true := rfl
      clear hap hI
      go_wp2_with fail
      have hw2 : v2.alloc (.cells #[.int .i64 0, .int .i64 0, .string (mk []), .slice A2 1 c2] 32) = w2 := HW.out
      have hz2 : v2.heap.size + 1 = w2.heap.size := by rw [← hw2]; simp
      rw [hw2, hz2]
      clear hw2 hz2
      refine (same17_calls ⟨0, 0, [], [fN]⟩ ⟨0, 0, [], [fN]⟩ A2 (some ⟨w2.heap.size, 0, none⟩) c2 1 _ (by decide) (Z2.out.names.below (balloc (Below.refl _ _))) (Strs.one (k := 0) (heap_alloc_new _ _)) true (by simp)).mono ?_
      rintro e w5 ⟨rfl, hB⟩
      have HB5 := Lib.hid (bstep (bstep HA2.out.below (balloc (Below.refl _ _))) hB)
      clear hB
      go_wp2_with fail
      refine (live_calls _).mono ?_
      rintro e wl ⟨rfl, hBl⟩
      have HBl := Lib.hid (bstep (HB5.out) hBl)
      clear hBl
      go_wp2_with fail
      go_ret
      exact ⟨rfl, HBl.out⟩

end Go.Proofs.YtaccokghjpcijaaGreatDoor
namespace Go.Proofs.YtaccokghjpcijaaGreatDoor
open Go.ChangeShapes Go.WideShapes Go.ChangeAt Go.RowKit Go.ChangeMaps Pp
set_option linter.unusedVariables false

set_option maxRecDepth 100000 in
/-- What the walk gives, for every argument. -/
theorem modelApart_contract (H : Type) (enc : TypeId × Value → H) (W : World) (base : Nat) (args : Array Value) (ds gs : List (DataW H)) (before : List MemPlace)
    (hval0 : ∀ (j : Nat) t v, Tryz.f4.params[j]? = some t → args[j]? = some v → Value.okWide Tryz.prog W .any base t v)
    (hW : DataW.Whole enc Tryz.prog Tryz.f4.params.toList Rows.modelApartSpec.vars false W args.toList ds gs before) :
    Calls Tryz.prog 4 args W fun e W' => ∃ v, e = .returned v ∧ Rows.modelApartSpec.post enc Tryz.prog Tryz.f4 false true false false W args v W' := by
  have hval : ∀ (j : Nat) t v, Tryz.f4.params[j]? = some t → args[j]? = some v → Value.okWide Tryz.prog W .any base t v := hval0
  have hW' := hW
  obtain ⟨p, q, hA0, hV, rfl, hfz, hnd⟩ := hW
  have hA : DataW.TrodAll enc Tryz.prog W 0 (fun _ => true) true Tryz.f4.params.toList args.toList ds p := hA0
  rw [Tryz.params4] at hA hval
  obtain ⟨v0, vs0, d0, ds0, p0, q0, hargs, rfl, rfl, h0, r0⟩ := trodAll_cons hA
  obtain ⟨rfl, rfl, rfl⟩ := trodAll_nil r0
  obtain rfl : args = #[v0] := by cases args; simp_all
  obtain ⟨rfl, rfl⟩ := trodVars_none hV
  have k0 := h0
  have lt0 : ∀ x ∈ p0, x.block < W.heap.size := by obtain ⟨m, hm⟩ := k0; exact DataW.trod_lt m _ _ _ hm
  obtain ⟨A0, c0, l0, hc0, hC0, hl0⟩ := ops_arg (hval 0 22 v0 rfl rfl) h0
  subst hc0
  clear hA0 hval0
  refine (apart_walk A0 c0 l0 hC0 hl0).mono fun e W' ⟨he, bel⟩ => ?_
  subst he
  exact ⟨_, rfl, _, _, _, [], _, [], hW', trodAll_mk1 (shut_bool Tryz.underlying4 _), (trodAll_cons_mk (Below.trod laidOut (by kernel_rfl) (of_decide_eq_true (by kernel_rfl)) k0 bel lt0) trodAll_mk0), rfl, bel.frame _, fun h => by cases h⟩

theorem modelApart_reads (os : Os) {H : Type} (enc : TypeId × Value → H) : ∃ places, DataW.whole enc Tryz.prog ((World.laidAll Tryz.prog os Rows.modelApartRow.laid).forCall (fun _ _ => 0) ⟨#[], #[.slice none 0 0], []⟩).memory Tryz.f4.params.toList Rows.modelApartSpec.vars false (#[.slice none 0 0] : Array Value).toList 8 = some ([.nil], [], places) :=
  ⟨[], by kernel_rfl⟩
theorem modelApart_met (os : Os) : laidMetH Tryz.prog Rows.modelApartRow.laid ((World.laidAll Tryz.prog os Rows.modelApartRow.laid).forCall (fun _ _ => 0) ⟨#[], #[.slice none 0 0], []⟩).memory := by
  rw [MakeChecks.laidMetH_plain _ _ _ (by kernel_rfl)]
  exact laidMet_laidAll _ (by kernel_rfl) (by kernel_rfl)

set_option maxRecDepth 100000 in
theorem modelApart_lifted (os : Os) (started : os.Started) (H : Type) (enc : TypeId × Value → H) (F : Stop.Interp) :
    ReturnsInHanded {} Tryz.checked os 4 .any ((OpenSpec.ofChange Rows.modelApartSpec).preRow enc Tryz.prog Tryz.f4 Rows.modelApartRow.domain false Rows.modelApartRow.laid) (((OpenSpec.ofChange Rows.modelApartSpec).at F).post enc Tryz.prog Tryz.f4 false true false false) := by
  obtain ⟨places, hx⟩ := modelApart_reads os enc
  refine returnsInHanded_of_row (C := Tryz.checked) (s := OpenSpec.ofChange Rows.modelApartSpec) own started (by kernel_rfl) Tryz.func4
    (witness_row_at (enc := enc) (C := Tryz.checked) false (World.laidAll Tryz.prog os Rows.modelApartRow.laid) #[.slice none 0 0] (World.laidAll_os _ _ _) (by kernel_rfl) (by kernel_rfl) (by kernel_rfl)
      (OpenSpec.preRow_of_cond 8 hx (by kernel_rfl) (fun k hk => by cases hk) (by kernel_rfl) (modelApart_met os))) ?_
  intro W base args ds gs before hval hW _ hcond _ hL _ _
  exact modelApart_contract H enc W base args ds gs before hval hW

theorem modelApart_said : Rows.ModelApartSaid :=
  OpenClaim.holds_of_cond 4 Tryz.f4 rfl rfl rfl rfl rfl rfl rfl ⟨rfl, rfl, rfl, rfl, rfl⟩ rfl rfl rfl rfl rfl (by kernel_rfl) Tryz.func4 (by kernel_rfl)
    (of_decide_eq_true (by kernel_rfl)) (by unfold Func.isWrapper; first | (rw [if_pos (by decide +kernel)]; kernel_rfl) | (rw [if_neg (by decide +kernel)]; exact ⟨rfl, rfl⟩))
    (fun os started H enc _ F => by rw [OpenClaim.pre_eq_preRow]; exact modelApart_lifted os started H enc F)

theorem modelApart_plain (f : FuncId) (fn : Func) (hf : Tryz.pinned.checked.prog.funcNamed "permafrost/permafrostlaw17.ModelApart" = some f) (hfn : Tryz.pinned.checked.prog.funcs[f]? = some fn) :
    false = Tryz.pinned.checked.prog.looks [] ∧ ∀ (j : Nat) t, fn.params[j]? = some t → Tryz.pinned.checked.prog.wantsStandIn t = false := by
  obtain rfl : f = 4 := Option.some.inj ((show Tryz.prog.funcNamed "permafrost/permafrostlaw17.ModelApart" = some 4 by kernel_rfl).symm.trans hf) |>.symm
  obtain rfl : fn = Tryz.f4 := (Option.some.inj (Tryz.func4.symm.trans hfn)).symm
  refine ⟨by kernel_rfl, fun j t ht => ?_⟩
  rw [Tryz.params4] at ht
  have hm : t ∈ [22] := by simpa using Array.mem_of_getElem? ht
  have hall : ([22].all fun u => !Tryz.prog.wantsStandIn u) = true := by kernel_rfl
  exact (show Tryz.prog.wantsStandIn t = false by simpa using List.all_eq_true.1 hall t hm)

theorem modelApart_card : Rows.ModelApartCardSaid :=
  Claim7.holds_tied_plain_at .later [] _ _ _ _ modelApart_said (fun _ h => by cases h) (by kernel_rfl) (fun _ h => by cases h) modelApart_row_tie rfl ⟨rfl, rfl⟩ (by kernel_rfl) rfl modelApart_plain (by kernel_rfl)
#print axioms modelApart_card
end Go.Proofs.YtaccokghjpcijaaGreatDoor
